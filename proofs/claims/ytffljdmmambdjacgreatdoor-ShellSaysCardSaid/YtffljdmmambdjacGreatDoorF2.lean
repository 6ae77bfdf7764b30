/- What functions of the program come to, part 2: in every world; the conditions stand in each theorem. -/
import Derived.Test.YtffljdmmambdjacGreatDoorF1
set_option linter.unusedVariables false
set_option linter.unusedSectionVars false
set_option linter.unusedSimpArgs false
open Go Go.Proofs Gw Gp
namespace Gv
variable [Glob] [Laid] [Nums]
theorem linesC_put4 {c : Cmd} (h : checkCmd c = 0) (l : List Bs) (hl : (put l).length ≤ 4000) : (put (linesC c l)).length ≤ 4000:=by
  have h0:=put_len (l:=l) (n:=4000) hl
  unfold linesC
  split
  · rw [put_perm (sortB_perm l)]; omega
  split
  · have:=put_sub (onceB_sublist l); omega
  split
  · have:=itoa_len l.length ⟨by omega,by omega⟩
    simp only [put,List.length_append,List.length_cons,List.length_nil]
    omega
  split
  · have:=put_sub (List.take_sublist c.n.toNat l); omega
  split
  · have:=put_sub (List.drop_sublist (l.length - c.n.toNat) l); omega
  · have:=put_filterMap h l; omega
theorem doLines_put4 : ∀ {cs : List Cmd} {s : List Bs},(∀ c ∈ cs,checkCmd c = 0) → (put s).length ≤ 4000 → (put (doLines cs s)).length ≤ 4000
  | [],s,_,h=>h
  | c :: r,s,hc,h=>doLines_put4 (cs:=r) (fun d hd=>hc d (List.mem_cons_of_mem _ hd)) (linesC_put4 (hc c (List.mem_cons_self ..)) s h)
theorem bytesGo_fine4 : ∀ {l : List Bs} {n : Nat},NoNl l → n + (put l).length ≤ 4000 → bytesGo n l = 0
  | [],n,_,_=>rfl
  | s :: r,n,h,hl=>by
    simp only [put,List.length_append,List.length_cons] at hl
    rw [bytesGo,if_neg (by simpa using h s (List.mem_cons_self ..)),if_neg (by omega)]
    exact bytesGo_fine4 (fun x hx=>h x (List.mem_cons_of_mem _ hx)) (by omega)
theorem doLines_no : ∀ {cs : List Cmd} {s : List Bs},(∀ c ∈ cs,checkCmd c = 0) → NoNl s → NoNl (doLines cs s)
  | [],s,_,h=>h
  | c :: r,s,hc,h=>doLines_no (cs:=r) (fun d hd=>hc d (List.mem_cons_of_mem _ hd)) (linesC_no (hc c (List.mem_cons_self ..)) h)
def allOf (F : List FileS) (f : List Bs) : List Bs:=(f.map fun s=>linesOf (fileAt F s)).flatten
theorem gather_val {F : List FileS} {f : List Bs} (h : (gatherS F f).2 = 0) : checkFiles F = 0 ∧ f.length ≤ 4 ∧ NoNl (allOf F f) ∧ (put (allOf F f)).length ≤ 4000 ∧ (allOf F f).length ≤ 4000 ∧ (gatherS F f).1 = put (allOf F f) ∧ linesOf (gatherS F f).1 = allOf F f:=by
  have hl:=gatherS_len F f
  obtain ⟨g,hg⟩ : ∃ g,gatherS F f = (g,0):=⟨_,Prod.ext rfl h⟩
  have hgs : gatherS F f = if checkFiles F ≠ 0 then ([],checkFiles F) else if 4 < f.length then ([],2) else gatherGo F [] f:=rfl
  have hf : checkFiles F = 0:=by
    by_cases hf : checkFiles F = 0
    · exact hf
    · rw [hgs,if_pos hf] at h
      exact h
  have h4 : ¬ 4 < f.length:=fun h4=>by
    rw [hgs,if_neg (by rw [hf]; decide),if_pos h4] at h
    cases h
  have hgg : gatherGo F (put []) f = (g,0):=by
    rw [hgs,if_neg (by rw [hf]; decide),if_neg h4] at hg
    exact hg
  have hgo:=gatherGo_ok _ _ hgg
  rw [List.nil_append] at hgo
  have hno : NoNl (allOf F f):=noNl_flat fun a ha=>by
    obtain ⟨b,-,rfl⟩:=List.mem_map.1 ha
    exact linesOf_no10 _
  rw [hg] at hl ⊢
  have hgo : g = put (allOf F f):=hgo
  dsimp only at hl ⊢
  rw [hgo] at hl ⊢
  exact ⟨hf,by omega,hno,hl,put_len hl,rfl,linesOf_put hno⟩
theorem line_parts {l : LineS} (h : checkLine l = 0) : ∀ c ∈ l.cmds,checkCmd c = 0:=(checkLine_ok h).2
theorem shell_line {l : LineS} {F : List FileS} (hc : checkLine l = 0) (hg : (gatherS F l.frm).2 = 0) : shellLine F l = (put (doLines l.cmds (linesOf (gatherS F l.frm).1)),0):=by
  obtain ⟨g1,g2,g3,g4,g5,g6,g7⟩:=gather_val hg
  unfold shellLine
  rw [if_neg (by rw [hc]; decide),if_neg (by rw [hg]; decide),g7]
  unfold lineBytes
  rw [if_pos]
  have:=doLines_put4 (line_parts hc) g4
  exact bytesGo_fine4 (doLines_no (line_parts hc) g3) (by omega)
end Gv
namespace Gv
variable [Glob] [Laid]
theorem linesOfR_ca : callable Tryz.prog 89 = true:=by kernel_rfl
def linesOfR_S : Spec:=fun args K=>∃ (b : Bs),args = [.sl byteV b] ∧ b.length ≤ 1000000 ∧ K (.sl strV (linesOf b))
noncomputable def linesOfR_lib : List (Nat × Spec):=[(148,splitS_S)]
noncomputable def linesOfR_fns : List (Nat × FnI):=[]
noncomputable def linesOfR_prims : List (Nat × PSpec):=[]
theorem linesOfR_E : EnvOK ⟨Tryz.prog,tys,linesOfR_lib,linesOfR_fns,linesOfR_prims,[]⟩:=env_ok mixed0 tys0 (.cons splitS_ca splitS_ok .nil) .nil .nil rfl
set_option maxHeartbeats 4000000 in
theorem linesOfR_ok : Pure Tryz.prog 89 linesOfR_S:=by
  refine pure_by linesOfR_E 6 (fi:={fn:=Tryz.f89,hooks:=[],draws:=[]}) ⟨Tryz.func89,by kernel_rfl,by kernel_rfl⟩ ?_
  rintro _ K ⟨b,rfl,hz,hK⟩
  replace hK : ∀ r,r = .sl strV (linesOf b) → K r:=fun r h=>h ▸ hK
  have hsl:=split_lines b
  have hsn : 0 < (Lib.split b [10]).length:=List.length_pos_iff.2 (split_ne b [10])
  obtain ⟨L,hL⟩ : ∃ L,Lib.split b [10] = L:=⟨_,rfl⟩
  refine ⟨b,fun _=>rfl,rfl,?_⟩
  refine ⟨b,[10],rfl,⟨by omega,by decide⟩,?_⟩
  rw [hL] at hsl hsn ⊢
  repeat' first | (refine fun (hl : _ ≤ MAXL)=>?_) | refine And.intro (a:=I64 _) ?_ ?_ | fail
  · (first | omega | (unfold I64; omega) | (simp only [List.length_append,List.length_map,List.length_cons,List.length_nil,Nat.mul_one,Int.ofNat_eq_natCast] at *; omega) | (dsimp only at *; omega) | (unfold I64; dsimp only at *; omega) | (unfold I64; grind) | grind)
  refine ⟨L.length - 1,by omega,by omega,?_⟩
  repeat' first | (refine fun (b : Bool) hb=>?_; cases b <;> (first | exact absurd hb (by decide) | exact Bool.noConfusion (show true = false from hb) | exact Bool.noConfusion (show false = true from hb) | skip)) | (refine fun (hl : _ ≤ MAXL)=>?_) | refine And.intro (a:=I64 _) ?_ ?_ | refine ⟨(fun _=>rfl),?_⟩ | refine ⟨rfl,?_⟩ | fail
  · have h : ¬ L[L.length - 1] = []:=of_decide_eq_false (by assumption)
    conv=>whnf
    refine hK _ ?_
    rw [← hsl]
    unfold dropE
    rw [if_neg (by rw [List.getLast?_eq_getElem?,List.getElem?_eq_getElem (by omega)]; simpa using h)]
  · (first | omega | (unfold I64; omega) | (simp only [List.length_append,List.length_map,List.length_cons,List.length_nil,Nat.mul_one,Int.ofNat_eq_natCast] at *; omega) | (dsimp only at *; omega) | (unfold I64; dsimp only at *; omega) | (unfold I64; grind) | grind)
  have h : L[L.length - 1] = []:=of_decide_eq_true (by assumption)
  refine ⟨L.length - 1,by omega,by omega,?_⟩
  skip
  refine hK _ ?_
  rw [← hsl]
  unfold dropE
  rw [if_pos (by rw [List.getLast?_eq_getElem?,List.getElem?_eq_getElem (by omega),h]),List.dropLast_eq_take]
end Gv
namespace Gv
variable [Glob] [Laid]
theorem joinS_ca : callable Tryz.prog 146 = true:=by kernel_rfl
def joinS_S : Spec:=fun args K=>∃ (l : List Bs) (sep : Bs),args = [.sl strV l,.str sep] ∧ (l.length ≤ 140737488355328 ∧ (Lib.join l sep).length ≤ 140737488355328) ∧ K (.str (Lib.join l sep))
set_option maxHeartbeats 4000000 in
theorem joinS_ok : Pure Tryz.prog 146 joinS_S:=by
  intro w m args us K hm hg hv hT
  obtain ⟨l,sep,rfl,⟨h1,h2⟩,hK⟩:=hT
  obtain ⟨a,b,rfl,ha,hb⟩:=args2 hv.1 hv.2
  obtain ⟨p,c,rfl,hlc,hc,hp⟩:=strs_open ha hm
  obtain ⟨rfl,-⟩:=vr_str hb
  by_cases hl : l = []
  · subst hl
    refine (Tryz.strings_Join_none p c (ba sep) w).mono fun e w' ⟨he,hw⟩=>?_
    subst hw
    exact ⟨_,_,he,Bel.refl _ _,hK,.str (s:=[]) (Nat.zero_le _)⟩
  · obtain ⟨bk,o,rfl,hbk,hx,hx2⟩:=hp hl
    have e1 : (l.map ba).map (fun x=>x.data.toList) = l:=by
      rw [List.map_map]
      conv=>rhs; rw [← List.map_id l]
      rfl
    have e2 : (l.map ba).length = l.length:=List.length_map ..
    have:=Tryz.strings_Join bk o c (l.map ba) (ba sep) w (fun j x hj=>by
      rw [List.getElem?_map] at hj
      obtain ⟨y,hy,rfl⟩:=Option.map_eq_some_iff.1 hj
      exact hx j y hy) hbk (by rw [e2]; exact h1) (by rw [e2]; exact hlc) (by rw [e1]; exact h2)
    rw [e1,e2] at this
    refine this.mono fun e w' ⟨he,hw⟩=>?_
    exact ⟨_,_,he,Bel.of_below hw,hK,.str (by have:=h2; unfold MAXL; show (Lib.join l sep).length ≤ _; omega)⟩
end Gv
namespace Gv
variable [Glob] [Laid]
theorem bytesOfR_ca : callable Tryz.prog 87 = true:=by kernel_rfl
def bytesOfR_S : Spec:=fun args K=>∃ (l : List Bs),args = [.sl strV l] ∧ (put l).length ≤ 1000000 ∧ K (.sl byteV (put l))
noncomputable def bytesOfR_lib : List (Nat × Spec):=[(146,joinS_S)]
noncomputable def bytesOfR_fns : List (Nat × FnI):=[]
noncomputable def bytesOfR_prims : List (Nat × PSpec):=[]
theorem bytesOfR_E : EnvOK ⟨Tryz.prog,tys,bytesOfR_lib,bytesOfR_fns,bytesOfR_prims,[]⟩:=env_ok mixed0 tys0 (.cons joinS_ca joinS_ok .nil) .nil .nil rfl
set_option maxHeartbeats 4000000 in
theorem bytesOfR_ok : Pure Tryz.prog 87 bytesOfR_S:=by
  refine pure_by bytesOfR_E 6 (fi:={fn:=Tryz.f87,hooks:=[],draws:=[]}) ⟨Tryz.func87,by kernel_rfl,by kernel_rfl⟩ ?_
  rintro _ K ⟨l,rfl,hz,hK⟩
  replace hK : ∀ r,r = .sl byteV (put l) → K r:=fun r h=>h ▸ hK
  have hj:=join_put l
  have hjl : (Lib.join l [10]).length ≤ (put l).length:=by
    rw [← hj]
    split
    · simp
    · exact Nat.le_refl _
  have hll:=put_len (l:=l) (n:=1000000) hz
  refine ⟨l,[10],rfl,⟨by omega,by omega⟩,?_⟩
  repeat' first | (refine fun (b : Bool) hb=>?_; cases b <;> (first | exact absurd hb (by decide) | exact Bool.noConfusion (show true = false from hb) | exact Bool.noConfusion (show false = true from hb) | skip)) | (refine fun (hl : _ ≤ MAXL)=>?_) | refine And.intro (a:=_ ≤ 140737488355328) ?_ ?_ | refine Opt.a ?_ | fail
  · omega
  · conv=>whnf
    refine hK _ ?_
    rw [← hj,if_neg (by have:=of_decide_eq_false (by assumption : decide ((0 : Int) < (l.length : Int)) = false); omega)]
  all_goals have hp : 0 < l.length:=by have:=of_decide_eq_true (by assumption : decide ((0 : Int) < (l.length : Int)) = true); omega
  rw [if_pos hp] at hj
  conv=>whnf
  refine ⟨by show (Lib.join l [10]).length + 1 ≤ MAXL; unfold MAXL; omega,?_⟩
  repeat' first | refine And.intro (a:=_ ≤ 140737488355328) ?_ ?_ | refine Opt.a ?_ | fail
  · show (Lib.join l [10] ++ [10]).length ≤ 140737488355328
    rw [hj]
    omega
  conv=>whnf
  refine hK _ ?_
  show V.sl byteV (Lib.join l [10] ++ [10]) = _
  rw [hj]
end Gv
namespace Gv
variable [Glob] [Laid]
theorem wholeR_ca : callable Tryz.prog 94 = true:=by kernel_rfl
def wholeR_S : Spec:=fun args K=>∃ b : Bs,args = [.sl byteV b] ∧ b.length ≤ 100000 ∧ K (.sl byteV (whole b))
noncomputable def wholeR_lib : List (Nat × Spec):=[(89,linesOfR_S),(87,bytesOfR_S)]
noncomputable def wholeR_fns : List (Nat × FnI):=[]
noncomputable def wholeR_prims : List (Nat × PSpec):=[]
theorem wholeR_E : EnvOK ⟨Tryz.prog,tys,wholeR_lib,wholeR_fns,wholeR_prims,[]⟩:=env_ok mixed0 tys0 (.cons linesOfR_ca linesOfR_ok (.cons bytesOfR_ca bytesOfR_ok .nil)) .nil .nil rfl
set_option maxHeartbeats 4000000 in
theorem wholeR_ok : Pure Tryz.prog 94 wholeR_S:=by
  refine pure_by wholeR_E 6 (fi:={fn:=Tryz.f94,hooks:=[],draws:=[]}) ⟨Tryz.func94,by kernel_rfl,by kernel_rfl⟩ ?_
  rintro _ K ⟨b,rfl,hb,hK⟩
  replace hK : ∀ r,r = .sl byteV (whole b) → K r:=fun r h=>h ▸ hK
  have h1:=whole_len b
  repeat' (first | exact True.intro | refine ⟨_,LeL.refl _,?_⟩ | refine ⟨_,_,_,LeL.refl _,?_⟩ | (refine fun (b : Bool) hb=>?_; cases b <;> (first | exact absurd hb (by decide) | exact Bool.noConfusion (show true = false from hb) | exact Bool.noConfusion (show false = true from hb) | skip)) | (refine fun (hl : _ ≤ MAXL)=>?_) | refine And.intro (a:=I64 _) ?_ ?_ | refine And.intro (a:=_ ≤ 140737488355328) ?_ ?_ | refine ⟨_,⟨rfl,rfl⟩,?_⟩ | refine ⟨_,And.intro (a:=I64 _) ?_ ⟨rfl,rfl⟩,?_⟩ | refine ⟨_,_,⟨rfl,rfl⟩,?_⟩ | refine ⟨_,(fun _=>⟨rfl,rfl⟩),?_⟩ | refine And.intro (a:=chkPend _ _ _ _ _ _) ?_ ?_ | refine And.intro (a:=chkPast _ _ _ _ _ _ _ _) ?_ ?_ | refine ⟨⟨rfl,rfl⟩,?_⟩ | refine And.intro (And.intro rfl rfl) ?_ | refine ⟨True.intro,?_⟩ | refine ⟨_,⟨_,rfl,?_,rfl,rfl,rfl⟩,?_⟩ | refine ⟨_,rfl,?_,rfl,?_⟩ | refine ⟨_,(fun _=>rfl),rfl,?_⟩ | refine ⟨(fun _=>rfl),?_⟩ | refine ⟨rfl,?_⟩ | refine Opt.a ?_ | fail)
  refine ⟨b,rfl,by omega,?_⟩
  repeat' (first | exact True.intro | refine ⟨_,LeL.refl _,?_⟩ | refine ⟨_,_,_,LeL.refl _,?_⟩ | (refine fun (b : Bool) hb=>?_; cases b <;> (first | exact absurd hb (by decide) | exact Bool.noConfusion (show true = false from hb) | exact Bool.noConfusion (show false = true from hb) | skip)) | (refine fun (hl : _ ≤ MAXL)=>?_) | refine And.intro (a:=I64 _) ?_ ?_ | refine And.intro (a:=_ ≤ 140737488355328) ?_ ?_ | refine ⟨_,⟨rfl,rfl⟩,?_⟩ | refine ⟨_,And.intro (a:=I64 _) ?_ ⟨rfl,rfl⟩,?_⟩ | refine ⟨_,_,⟨rfl,rfl⟩,?_⟩ | refine ⟨_,(fun _=>⟨rfl,rfl⟩),?_⟩ | refine And.intro (a:=chkPend _ _ _ _ _ _) ?_ ?_ | refine And.intro (a:=chkPast _ _ _ _ _ _ _ _) ?_ ?_ | refine ⟨⟨rfl,rfl⟩,?_⟩ | refine And.intro (And.intro rfl rfl) ?_ | refine ⟨True.intro,?_⟩ | refine ⟨_,⟨_,rfl,?_,rfl,rfl,rfl⟩,?_⟩ | refine ⟨_,rfl,?_,rfl,?_⟩ | refine ⟨_,(fun _=>rfl),rfl,?_⟩ | refine ⟨(fun _=>rfl),?_⟩ | refine ⟨rfl,?_⟩ | refine Opt.a ?_ | fail)
  refine ⟨linesOf b,rfl,by show (whole b).length ≤ 1000000; omega,?_⟩
  repeat' (first | exact True.intro | refine ⟨_,LeL.refl _,?_⟩ | refine ⟨_,_,_,LeL.refl _,?_⟩ | (refine fun (b : Bool) hb=>?_; cases b <;> (first | exact absurd hb (by decide) | exact Bool.noConfusion (show true = false from hb) | exact Bool.noConfusion (show false = true from hb) | skip)) | (refine fun (hl : _ ≤ MAXL)=>?_) | refine And.intro (a:=I64 _) ?_ ?_ | refine And.intro (a:=_ ≤ 140737488355328) ?_ ?_ | refine ⟨_,⟨rfl,rfl⟩,?_⟩ | refine ⟨_,And.intro (a:=I64 _) ?_ ⟨rfl,rfl⟩,?_⟩ | refine ⟨_,_,⟨rfl,rfl⟩,?_⟩ | refine ⟨_,(fun _=>⟨rfl,rfl⟩),?_⟩ | refine And.intro (a:=chkPend _ _ _ _ _ _) ?_ ?_ | refine And.intro (a:=chkPast _ _ _ _ _ _ _ _) ?_ ?_ | refine ⟨⟨rfl,rfl⟩,?_⟩ | refine And.intro (And.intro rfl rfl) ?_ | refine ⟨True.intro,?_⟩ | refine ⟨_,⟨_,rfl,?_,rfl,rfl,rfl⟩,?_⟩ | refine ⟨_,rfl,?_,rfl,?_⟩ | refine ⟨_,(fun _=>rfl),rfl,?_⟩ | refine ⟨(fun _=>rfl),?_⟩ | refine ⟨rfl,?_⟩ | refine Opt.a ?_ | fail)
  exact hK _ rfl
end Gv
namespace Gv
variable [Glob] [Laid]
theorem gatheredR_ca : callable Tryz.prog 40 = true:=by kernel_rfl
def gatheredR_S : Spec:=fun args K=>∃ (F : List FileS) (f : List Bs),args = [.sl fileV F,.sl strV f] ∧ checkFiles F = 0 ∧ K (.tup [.sl byteV (gatherS F f).1,.int .i64 (gatherS F f).2])
noncomputable def gatheredR_lib : List (Nat × Spec):=[(35,fileOfR_S),(94,wholeR_S)]
noncomputable def gatheredR_fns : List (Nat × FnI):=[]
noncomputable def gatheredR_prims : List (Nat × PSpec):=[]
theorem gatheredR_E : EnvOK ⟨Tryz.prog,tys,gatheredR_lib,gatheredR_fns,gatheredR_prims,[]⟩:=env_ok mixed0 tys0 (.cons fileOfR_ca fileOfR_ok (.cons wholeR_ca wholeR_ok .nil)) .nil .nil rfl
set_option maxHeartbeats 8000000 in
theorem gatheredR_ok : Pure Tryz.prog 40 gatheredR_S:=by
  refine pure_by gatheredR_E 6 (fi:={fn:=Tryz.f40,hooks:=[],draws:=[]}) ⟨Tryz.func40,by kernel_rfl,by kernel_rfl⟩ ?_
  rintro _ K ⟨F,f,rfl,hF,hK⟩
  replace hK : ∀ r,r = .tup [.sl byteV (gatherS F f).1,.int .i64 (gatherS F f).2] → K r:=fun r h=>h ▸ hK
  have hR:=(files_iff.1 hF).2.2
  have hfb:=(files_iff.1 hF).2.1
  have hone : ∀ r : Bs × Int,(if 4 < f.length then ([],2) else gatherGo F [] f) = r → K (.tup [.sl byteV r.1,.int .i64 r.2]):=fun r h=>hK _ (by unfold gatherS; rw [if_neg (fun h=>h hF),h])
  repeat' first | (refine fun (b : Bool) hb=>?_; cases b <;> (first | exact absurd hb (by decide) | exact Bool.noConfusion (show true = false from hb) | exact Bool.noConfusion (show false = true from hb) | skip)) | (refine fun (hl : _ ≤ MAXL)=>?_) | fail
  rotate_left
  · have h4 : 4 < f.length := by
      have h:=of_decide_eq_true (by assumption : decide ((4 : Int) < (f.length : Int)) = true)
      omega
    rw [if_pos h4] at hone
    conv=>whnf
    skip
    refine ⟨UInt8,byteV,?_⟩
    exact hone _ rfl
  have h4 : ¬ 4 < f.length:=by
    have h:=of_decide_eq_false (by assumption : decide ((4 : Int) < (f.length : Int)) = false)
    omega
  rw [if_neg h4] at hone
  conv=>whnf
  skip
  conv=>whnf
  refine loop_live [0,12,13] (σ:=Nat × Bs) (fun s=>[(14,.int .i64 s.1),(6,.own 0)]) (fun s=>[.row 1 (s.2.map byteV)]) (fun s=>s.1 ≤ f.length ∧ gatherGo F s.2 (f.drop s.1) = gatherGo F [] f ∧ s.2.length ≤ 4000) (fun s=>f.length - s.1) (0,[]) ?_
  conv=>whnf
  refine ⟨(by (refine wk_sel [none] rfl rfl ?_ ?_ <;> (repeat' (first | exact True.intro | exact rfl | exact Or.inl rfl | exact Or.inr rfl | refine And.intro ?_ ?_ | fail)))),⟨Nat.zero_le _,rfl,by simp⟩,fun s hs=>?_⟩
  obtain ⟨i,out⟩:=s
  obtain ⟨hi,hg,ho⟩:=hs
  dsimp only at hi hg ho
  repeat' first | refine ⟨_,_,_,LeL.refl _,?_⟩ | (refine fun (b : Bool) hb=>?_; cases b <;> (first | exact absurd hb (by decide) | exact Bool.noConfusion (show true = false from hb) | exact Bool.noConfusion (show false = true from hb) | skip)) | refine ⟨_,rfl,?_,rfl,?_⟩ | fail
  · have hge : ¬ (i : Int) < (f.length : Int):=of_decide_eq_false (by assumption)
    have e : f.drop i = []:=List.drop_eq_nil_of_le (by omega)
    rw [e] at hg
    conv=>whnf
    exact hone _ hg.symm
  · have h:=of_decide_eq_true (by assumption : decide ((i : Int) < (f.length : Int)) = true)
    show i < f.length
    omega
  have hlt : i < f.length:=by
    have h:=of_decide_eq_true (by assumption : decide ((i : Int) < (f.length : Int)) = true)
    omega
  rw [List.drop_eq_getElem_cons hlt,gatherGo,fileAt_getN hR] at hg
  have hgl : (getN F f[i]).length ≤ 4000:=by
    rw [← fileAt_getN hR]
    exact fileAt_len (fun g hg=>(hfb g hg).2) _
  have hw:=whole_len (getN F f[i])
  conv=>whnf
  skip
  refine ⟨F,f[i],rfl,?_⟩
  skip
  refine ⟨getN F f[i],rfl,by omega,?_⟩
  repeat' first | (refine fun (b : Bool) hb=>?_; cases b <;> (first | exact absurd hb (by decide) | exact Bool.noConfusion (show true = false from hb) | exact Bool.noConfusion (show false = true from hb) | skip)) | (refine fun (hl : _ ≤ MAXL)=>?_) | refine And.intro (a:=I64 _) ?_ ?_ | refine And.intro (a:=_ ≤ 140737488355328) ?_ ?_ | refine ⟨(fun _=>rfl),?_⟩ | fail
  · show ((out.map byteV).length + ((whole (getN F f[i])).map byteV).length) * 1 ≤ 140737488355328
    rw [List.length_map,List.length_map]; omega
  · unfold I64; dsimp only; omega
  · have h:=of_decide_eq_false (by assumption : decide ((4000 : Int) < ((out.map byteV ++ (whole (getN F f[i])).map byteV).length : Int)) = false)
    rw [List.length_append,List.length_map,List.length_map] at h
    rw [if_neg (by omega)] at hg
    conv=>whnf
    skip
    refine ⟨(i + 1,out ++ whole (getN F f[i])),?_,⟨hlt,hg,by show (out ++ _).length ≤ 4000; rw [List.length_append]; omega⟩,by show f.length - (i + 1) < f.length - i; omega⟩
    (refine wk_auto ?_; refine Sel4.mk rfl rfl ?_ ?_ <;> (repeat' (first | exact True.intro | exact rfl | exact Or.inl rfl | exact Or.inr rfl | refine And.intro ?_ ?_ | fail)))
    show Row.row 1 _ = Row.row 1 _
    rw [List.map_append]
  · have h:=of_decide_eq_true (by assumption : decide ((4000 : Int) < ((out.map byteV ++ (whole (getN F f[i])).map byteV).length : Int)) = true)
    rw [List.length_append,List.length_map,List.length_map] at h
    rw [if_pos (by omega)] at hg
    conv=>whnf
    skip
    refine ⟨UInt8,byteV,?_⟩
    exact hone _ hg.symm
end Gv
namespace Gv
variable [Glob] [Laid] [Nums]
theorem madeR_ca : callable Tryz.prog 88 = true:=by kernel_rfl
def madeR_S : Spec:=fun args K=>∃ (c : Cmd) (l : List Bs),args = [cmdV c,.sl strV l] ∧ (checkCmd c = 0 ∧ l.length ≤ 100000 ∧ ∀ s ∈ l,s.length ≤ 100000) ∧ K (.sl strV (linesC c l))
noncomputable def madeR_lib : List (Nat × Spec):=[(147,containsS_S),(148,splitS_S),(150,itoa_S)]
noncomputable def madeR_fns : List (Nat × FnI):=[(149,{fn:=Tryz.f149,hooks:=[],draws:=[]})]
noncomputable def madeR_prims : List (Nat × PSpec):=[(152,sortS_P)]
theorem madeR_E : EnvOK ⟨Tryz.prog,tys,madeR_lib,madeR_fns,madeR_prims,[]⟩:=env_ok mixed0 tys0 (.cons containsS_ca containsS_ok (.cons splitS_ca splitS_ok (.cons itoa_ca itoa_ok .nil))) (.cons (by kernel_rfl) ⟨Tryz.func149,by kernel_rfl,by kernel_rfl⟩ .nil) (.cons sortS_prim .nil) rfl
set_option maxHeartbeats 40000000 in
theorem madeR_ok : Pure Tryz.prog 88 madeR_S:=by
  refine pure_by madeR_E 6 (fi:={fn:=Tryz.f88,hooks:=[40],draws:=[(16,[0,0,3,7,0,16,48,127])]}) ⟨Tryz.func88,by kernel_rfl,by kernel_rfl⟩ ?_
  rintro _ K ⟨c,l,rfl,⟨hc,hlc,hs⟩,hK⟩
  replace hK : ∀ r,r = .sl strV (linesC c l) → K r:=fun r h=>h ▸ hK
  have hkind : 1 ≤ c.kind ∧ c.kind ≤ 10:=by
    unfold checkCmd at hc
    grind
  repeat' first | (refine fun (hl : _ ≤ MAXL)=>?_) | fail
  conv=>whnf
  refine loop_live [1,2,14,15] (σ:=Nat × List Bs) (fun s=>[(16,.int .i64 s.1),(5,.own 1)]) (fun s=>[.box (cmdV c).cells,.row 1 (s.2.map strV)]) (fun s=>s.2 = accM c l s.1 ∧ s.1 ≤ l.length) (fun s=>l.length - s.1) (0,[]) ?_
  conv=>whnf
  refine ⟨(by (refine wk_auto ?_; refine Sel4.mk rfl rfl ?_ ?_ <;> (repeat' (first | exact True.intro | exact rfl | exact Or.inl rfl | exact Or.inr rfl | refine And.intro ?_ ?_ | fail)))),⟨(accM_0 c l).symm,Nat.zero_le _⟩,fun s hs=>?_⟩
  obtain ⟨i,out⟩:=s
  obtain ⟨ho,hi⟩:=hs
  dsimp only at ho hi
  have hol : out.length ≤ 100000:=by rw [ho]; exact Nat.le_trans (accM_len c l i hi) hlc
  repeat' first | refine ⟨_,_,_,LeL.refl _,?_⟩ | (refine fun (b : Bool) hb=>?_; cases b <;> (first | exact absurd hb (by decide) | exact Bool.noConfusion (show true = false from hb) | exact Bool.noConfusion (show false = true from hb) | skip)) | (refine fun (hl : _ ≤ MAXL)=>?_) | refine ⟨_,rfl,?_,rfl,?_⟩ | fail
  · -- all came
    have h : ¬ (i : Int) < (l.length : Int):=of_decide_eq_false (by assumption)
    have e : i = l.length:=by omega
    have h6 : c.kind ≠ 6:=of_decide_eq_false (by assumption)
    have h8 : c.kind ≠ 8:=of_decide_eq_false (by assumption)
    rw [e,accM_end h6 h8] at ho
    conv=>whnf
    exact hK _ (by rw [← ho])
  · have h8 : c.kind = 8:=of_decide_eq_true (by assumption)
    refine ⟨l.length,rfl,⟨by omega,by omega⟩,?_⟩
    skip
    refine ⟨Bs,strV,[Lib.itoa l.length],LeL.refl _,?_⟩
    refine hK _ ?_
    unfold linesC
    rw [if_neg (by omega),if_neg (by omega),if_pos h8]
  · have h6 : c.kind = 6:=of_decide_eq_true (by assumption)
    skip
    have h : ¬ (i : Int) < (l.length : Int):=of_decide_eq_false (by assumption)
    have e : i = l.length:=by omega
    have ho6 : out = l:=by rw [ho,e]; unfold accM; rw [if_pos h6,List.take_length]
    refine .inl ⟨out,rfl,rfl,by omega,?_⟩
    repeat' first | refine ⟨_,_,_,LeL.refl _,?_⟩ | (refine fun (b : Bool) hb=>?_; cases b <;> (first | exact absurd hb (by decide) | exact Bool.noConfusion (show true = false from hb) | exact Bool.noConfusion (show false = true from hb) | skip)) | (refine fun (hl : _ ≤ MAXL)=>?_) | fail
    · refine hK _ ?_
      unfold linesC
      rw [if_pos h6,ho6]
    · have h8 : c.kind = 8:=of_decide_eq_true (by assumption)
      omega
  · have h:=of_decide_eq_true (by assumption : decide ((i : Int) < (l.length : Int)) = true)
    show i < l.length
    omega
  have hlt : i < l.length:=by
    have h:=of_decide_eq_true (by assumption : decide ((i : Int) < (l.length : Int)) = true)
    omega
  have hsi:=hs _ (List.getElem_mem hlt)
  conv=>whnf
  refine join_live [1,2,5,14,15,16] (σ:=Bs × Bool) (fun s=>[(7,.str s.1),(8,.bool s.2)]) (fun _=>[.box (cmdV c).cells,.row 1 (out.map strV)]) (fun s=>accM c l (i + 1) = out ++ (if s.2 = true then [s.1] else [])) ?_
  conv=>whnf
  refine ⟨?_,fun s hst=>?_⟩
  · have hk10 : c.kind = 1 ∨ c.kind = 2 ∨ c.kind = 3 ∨ c.kind = 4 ∨ c.kind = 5 ∨ c.kind = 6 ∨ c.kind = 7 ∨ c.kind = 8 ∨ c.kind = 9 ∨ c.kind = 10:=by omega
    obtain ⟨ck,cw,cn⟩:=c
    dsimp only at hk10
    rcases hk10 with rfl | rfl | rfl | rfl | rfl | rfl | rfl | rfl | rfl | rfl
    · repeat' first | (refine fun (b : Bool) hb=>?_; cases b <;> (first | exact absurd hb (by decide) | exact Bool.noConfusion (show true = false from hb) | exact Bool.noConfusion (show false = true from hb) | skip)) | fail
      refine ⟨l[i],cw,rfl,by omega,?_⟩
      skip
      refine ⟨(l[i],Lib.contains l[i] cw),(by (refine wk_auto ?_; refine Sel4.mk rfl rfl ?_ ?_ <;> (repeat' (first | exact True.intro | exact rfl | exact Or.inl rfl | exact Or.inr rfl | refine And.intro ?_ ?_ | fail)))),?_⟩
      rw [accM_each hlt (by show (1 : Int) < 6; decide),← ho]
      cases h : Lib.contains l[i] cw <;> simp [oneC,h]
    · repeat' first | (refine fun (b : Bool) hb=>?_; cases b <;> (first | exact absurd hb (by decide) | exact Bool.noConfusion (show true = false from hb) | exact Bool.noConfusion (show false = true from hb) | skip)) | fail
      refine ⟨l[i],cw,rfl,by omega,?_⟩
      skip
      refine ⟨(l[i],!Lib.contains l[i] cw),(by (refine wk_auto ?_; refine Sel4.mk rfl rfl ?_ ?_ <;> (repeat' (first | exact True.intro | exact rfl | exact Or.inl rfl | exact Or.inr rfl | refine And.intro ?_ ?_ | fail)))),?_⟩
      rw [accM_each hlt (by show (2 : Int) < 6; decide),← ho]
      cases h : Lib.contains l[i] cw <;> simp [oneC,h]
    · obtain ⟨x,y,hw⟩:=word2 hc rfl
      dsimp only at hw
      subst hw
      repeat' first | (refine fun (b : Bool) hb=>?_; cases b <;> (first | exact absurd hb (by decide) | exact Bool.noConfusion (show true = false from hb) | exact Bool.noConfusion (show false = true from hb) | skip)) | (refine fun (hl : _ ≤ MAXL)=>?_) | refine And.intro (a:=_ ≤ 140737488355328) ?_ ?_ | refine Opt.b ?_ | fail
      · exact Nat.le_trans hsi (by decide)
      skip
      conv=>whnf
      refine loop_live [1,2,5,8,9,14,15,16,41] (σ:=Nat × Bs) (fun s=>[(42,.int .i64 s.1),(9,.own 2)]) (fun s=>[.box (cmdV ⟨3,[x,y],cn⟩).cells,.row 1 (out.map strV),.row 1 (s.2.map byteV)]) (fun s=>s.2 = (l[i].take s.1).map (fun z=>if z = x then y else z) ++ l[i].drop s.1 ∧ s.1 ≤ l[i].length) (fun s=>l[i].length - s.1) (0,l[i]) ?_
      conv=>whnf
      refine ⟨(by (refine wk_auto ?_; refine Sel4.mk rfl rfl ?_ ?_ <;> (repeat' (first | exact True.intro | exact rfl | exact Or.inl rfl | exact Or.inr rfl | refine And.intro ?_ ?_ | fail)))),⟨by simp,Nat.zero_le _⟩,fun s hs=>?_⟩
      obtain ⟨k,d⟩:=s
      obtain ⟨hd,hk⟩:=hs
      dsimp only at hd hk
      have hdl : d.length = l[i].length:=by rw [hd]; simp; omega
      repeat' first | (refine fun (b : Bool) hb=>?_; cases b <;> (first | exact absurd hb (by decide) | exact Bool.noConfusion (show true = false from hb) | exact Bool.noConfusion (show false = true from hb) | skip)) | refine ⟨_,⟨rfl,rfl⟩,?_⟩ | fail
      · have hge : ¬ (k : Int) < ((l[i].map byteV).length : Int):=of_decide_eq_false (by assumption)
        rw [List.length_map] at hge
        have ek : k = l[i].length:=by omega
        refine ⟨d,rfl,rfl,?_⟩
        skip
        refine ⟨(d,true),(by (refine wk_auto ?_; refine Sel4.mk rfl rfl ?_ ?_ <;> (repeat' (first | exact True.intro | exact rfl | exact Or.inl rfl | exact Or.inr rfl | refine And.intro ?_ ?_ | fail)))),?_⟩
        rw [accM_each hlt (by show (3 : Int) < 6; decide),← ho,hd,ek]
        rw [one_3]
        simp
      have hkl : k < l[i].length:=by
        have h:=of_decide_eq_true (by assumption : decide ((k : Int) < ((l[i].map byteV).length : Int)) = true)
        rw [List.length_map] at h
        omega
      have hkd : k < d.length:=by omega
      have gk : (List.map byteV d)[k]? = some (byteV d[k]):=by rw [List.getElem?_map,List.getElem?_eq_getElem hkd]; rfl
      have edk : d[k] = l[i][k]:=mp_eq hkl hd hkd
      have hnx:=mp_set (fun z=>if z = x then y else z) hkl
      rw [← hd,← edk] at hnx
      conv=>whnf
      refine ⟨_,⟨rfl,k,rfl,by simpa using hkd,⟨rfl,rfl⟩⟩,?_⟩
      repeat' first | exact True.intro | refine And.intro (a:=chkPast _ _ _ _ _ _ _ _) ?_ ?_ | fail
      conv=>whnf
      refine ⟨_,⟨_,gk,⟨rfl,rfl⟩⟩,?_⟩
      repeat' first | exact True.intro | refine ⟨_,⟨rfl,rfl⟩,?_⟩ | refine And.intro (a:=chkPast _ _ _ _ _ _ _ _) ?_ ?_ | fail
      conv=>whnf
      refine ⟨_,⟨0,rfl,(by show 0 < 2; decide),rfl,rfl⟩,?_⟩
      repeat' first | exact True.intro | (refine fun (b : Bool) hb=>?_; cases b <;> (first | exact absurd hb (by decide) | exact Bool.noConfusion (show true = false from hb) | exact Bool.noConfusion (show false = true from hb) | skip)) | refine And.intro (a:=I64 _) ?_ ?_ | refine ⟨_,⟨rfl,rfl⟩,?_⟩ | refine And.intro (a:=chkPast _ _ _ _ _ _ _ _) ?_ ?_ | refine ⟨_,rfl,?_,rfl,?_⟩ | fail
      · unfold I64
        dsimp only
        omega
      · have hne : ¬ ((d[k].toNat : Int) = (x.toNat : Int)):=of_decide_eq_false (by assumption)
        have hne2 : ¬ d[k] = x:=fun e=>hne (by rw [e])
        refine ⟨(k + 1,d),(by (refine wk_auto ?_; refine Sel4.mk rfl rfl ?_ ?_ <;> (repeat' (first | exact True.intro | exact rfl | exact Or.inl rfl | exact Or.inr rfl | refine And.intro ?_ ?_ | fail)))),⟨?_,hkl⟩,?_⟩
        · show d = _
          rw [hnx,if_neg hne2,List.set_getElem_self]
        · show l[i].length - (k + 1) < l[i].length - k
          omega
      · show 2 ≤ 2
        decide
      have heq : ((d[k].toNat : Int) = (x.toNat : Int)):=of_decide_eq_true (by assumption)
      have heq2 : d[k] = x:=UInt8.toNat_inj.1 (by omega)
      rw [if_pos heq2] at hnx
      refine ⟨k,rfl,by simpa using hkd,?_⟩
      conv=>whnf
      refine ⟨by simpa using hkd,?_⟩
      repeat' first | refine And.intro (a:=I64 _) ?_ ?_ | fail
      · unfold I64
        dsimp only
        omega
      refine ⟨(k + 1,d.set k y),?_,⟨?_,hkl⟩,?_⟩
      rotate_left
      · show d.set k y = _
        rw [hnx]
      · show l[i].length - (k + 1) < l[i].length - k
        omega
      (refine wk_auto ?_; refine Sel4.mk rfl rfl ?_ ?_ <;> (repeat' (first | exact True.intro | exact rfl | exact Or.inl rfl | exact Or.inr rfl | refine And.intro ?_ ?_ | fail)))
      show Row.row 1 _ = Row.row 1 _
      simp [List.map_set]
      rfl
    · have hn1 : 1 ≤ cn ∧ cn ≤ 1000 := by
        unfold checkCmd useN at hc
        grind
      have hsn : 0 < (Lib.split l[i] [32]).length:=List.length_pos_iff.2 (split_ne l[i] [32])
      repeat' first | (refine fun (b : Bool) hb=>?_; cases b <;> (first | exact absurd hb (by decide) | exact Bool.noConfusion (show true = false from hb) | exact Bool.noConfusion (show false = true from hb) | skip)) | fail
      refine ⟨l[i],[32],rfl,⟨by omega,by decide⟩,?_⟩
      repeat' first | (refine fun (b : Bool) hb=>?_; cases b <;> (first | exact absurd hb (by decide) | exact Bool.noConfusion (show true = false from hb) | exact Bool.noConfusion (show false = true from hb) | skip)) | (refine fun (hl : _ ≤ MAXL)=>?_) | refine And.intro (a:=I64 _) ?_ ?_ | fail
      · have hle : ¬ cn ≤ ((Lib.split l[i] [32]).length : Int):=of_decide_eq_false (by assumption)
        refine ⟨([],true),(by (refine wk_auto ?_; refine Sel4.mk rfl rfl ?_ ?_ <;> (repeat' (first | exact True.intro | exact rfl | exact Or.inl rfl | exact Or.inr rfl | refine And.intro ?_ ?_ | fail)))),?_⟩
        rw [accM_each hlt (by show (4 : Int) < 6; decide),← ho]
        have h2 : ((Lib.split l[i] [32]).length : Int) < cn:=by omega
        simp [oneC,h2]
      · unfold I64
        dsimp only
        omega
      · have hle : cn ≤ ((Lib.split l[i] [32]).length : Int):=of_decide_eq_true (by assumption)
        have hj : (cn - 1).toNat < (Lib.split l[i] [32]).length:=by omega
        refine ⟨(cn - 1).toNat,by show cn - 1 = _; omega,hj,rfl,?_⟩
        skip
        refine ⟨((Lib.split l[i] [32])[(cn - 1).toNat],true),(by (refine wk_auto ?_; refine Sel4.mk rfl rfl ?_ ?_ <;> (repeat' (first | exact True.intro | exact rfl | exact Or.inl rfl | exact Or.inr rfl | refine And.intro ?_ ?_ | fail)))),?_⟩
        rw [accM_each hlt (by show (4 : Int) < 6; decide),← ho]
        have h2 : ¬ ((Lib.split l[i] [32]).length : Int) < cn:=by omega
        have e : (Lib.split l[i] [32]).getD (cn - 1).toNat [] = (Lib.split l[i] [32])[(cn - 1).toNat]:=by rw [List.getD_eq_getElem?_getD,List.getElem?_eq_getElem hj]; rfl
        unfold oneC
        simp only [show ¬ (4 : Int) = 1 by decide,show ¬ (4 : Int) = 2 by decide,show ¬ (4 : Int) = 3 by decide,if_false,if_true,if_neg h2,e]
    · repeat' first | (refine fun (b : Bool) hb=>?_; cases b <;> (first | exact absurd hb (by decide) | exact Bool.noConfusion (show true = false from hb) | exact Bool.noConfusion (show false = true from hb) | skip)) | (refine fun (hl : _ ≤ MAXL)=>?_) | refine And.intro (a:=I64 _) ?_ ?_ | fail
      · unfold I64
        dsimp only
        omega
      conv=>whnf
      refine loop_live [1,2,5,7,8,14,15,16] (σ:=Int × Bs) (fun s=>[(13,.int .i64 s.1),(12,.str s.2)]) (fun _=>[.box (cmdV ⟨5,cw,cn⟩).cells,.row 1 (out.map strV)]) (fun s=>s.2 = (l[i].drop (s.1 + 1).toNat).reverse ∧ -1 ≤ s.1 ∧ s.1 < (l[i].length : Int)) (fun s=>(s.1 + 1).toNat) ((l[i].length : Int) - 1,[]) ?_
      conv=>whnf
      refine ⟨(by (refine wk_auto ?_; refine Sel4.mk rfl rfl ?_ ?_ <;> (repeat' (first | exact True.intro | exact rfl | exact Or.inl rfl | exact Or.inr rfl | refine And.intro ?_ ?_ | fail)))),⟨by simp,by dsimp only; omega,by dsimp only; omega⟩,fun s hs=>?_⟩
      obtain ⟨k,t⟩:=s
      obtain ⟨ht,hk1,hk2⟩:=hs
      dsimp only at ht hk1 hk2
      repeat' first | (refine fun (b : Bool) hb=>?_; cases b <;> (first | exact absurd hb (by decide) | exact Bool.noConfusion (show true = false from hb) | exact Bool.noConfusion (show false = true from hb) | skip)) | refine And.intro (a:=I64 _) ?_ ?_ | fail
      · have hge : ¬ (0 : Int) ≤ k:=of_decide_eq_false (by assumption)
        refine ⟨(t,true),(by (refine wk_auto ?_; refine Sel4.mk rfl rfl ?_ ?_ <;> (repeat' (first | exact True.intro | exact rfl | exact Or.inl rfl | exact Or.inr rfl | refine And.intro ?_ ?_ | fail)))),?_⟩
        rw [accM_each hlt (by show (5 : Int) < 6; decide),← ho,ht,show (k + 1).toNat = 0 by omega,List.drop_zero]
        rw [one_5]
        rfl
      · unfold I64
        dsimp only
        omega
      have hge : (0 : Int) ≤ k:=of_decide_eq_true (by assumption)
      obtain ⟨j,rfl⟩ : ∃ j : Nat,k = (j : Int):=⟨k.toNat,by omega⟩
      have hj : j < l[i].length:=by omega
      refine ⟨j,j + 1,rfl,rfl,by omega,hj,?_⟩
      have hsl:=one_slice hj
      have hnx:=turn_next hj ht
      have htl : t.length ≤ l[i].length:=by rw [ht]; simp
      rw [hsl]
      skip
      refine ⟨by show t.length + 1 ≤ MAXL; unfold MAXL; omega,?_⟩
      repeat' first | refine And.intro (a:=I64 _) ?_ ?_ | fail
      · unfold I64
        dsimp only
        omega
      refine ⟨((j : Int) - 1,t ++ [l[i][j]]),(by (refine wk_auto ?_; refine Sel4.mk rfl rfl ?_ ?_ <;> (repeat' (first | exact True.intro | exact rfl | exact Or.inl rfl | exact Or.inr rfl | refine And.intro ?_ ?_ | fail)))),⟨?_,by dsimp only; omega,by dsimp only; omega⟩,by dsimp only; omega⟩
      show t ++ [l[i][j]] = (l[i].drop ((j : Int) - 1 + 1).toNat).reverse
      rw [show ((j : Int) - 1 + 1).toNat = j by omega]
      exact hnx
    · repeat' first | (refine fun (b : Bool) hb=>?_; cases b <;> (first | exact absurd hb (by decide) | exact Bool.noConfusion (show true = false from hb) | exact Bool.noConfusion (show false = true from hb) | skip)) | fail
      refine ⟨(l[i],true),(by (refine wk_auto ?_; refine Sel4.mk rfl rfl ?_ ?_ <;> (repeat' (first | exact True.intro | exact rfl | exact Or.inl rfl | exact Or.inr rfl | refine And.intro ?_ ?_ | fail)))),?_⟩
      rw [accM_6 hlt rfl,← ho]
      simp
    · repeat' first | (refine fun (b : Bool) hb=>?_; cases b <;> (first | exact absurd hb (by decide) | exact Bool.noConfusion (show true = false from hb) | exact Bool.noConfusion (show false = true from hb) | skip)) | refine And.intro (a:=I64 _) ?_ ?_ | fail
      · unfold I64
        dsimp only
        omega
      · have h0 : ¬ (i : Int) = 0:=of_decide_eq_false (by assumption)
        refine ⟨i - 1,by show (i : Int) - 1 = _; omega,by omega,rfl,?_⟩
        skip
        refine ⟨(l[i],!decide (l[i - 1] = l[i])),(by (refine wk_auto ?_; refine Sel4.mk rfl rfl ?_ ?_ <;> (repeat' (first | exact True.intro | exact rfl | exact Or.inl rfl | exact Or.inr rfl | refine And.intro ?_ ?_ | fail)))),?_⟩
        rw [accM_7 hlt rfl,← ho]
        have e : l.getD (i - 1) [] = l[i - 1]:=by rw [List.getD_eq_getElem?_getD,List.getElem?_eq_getElem (by omega)]; rfl
        rw [e]
        by_cases hq : l[i - 1] = l[i]
        · rw [if_neg (by rintro (h | h); exact h0 (by omega); exact h hq)]
          simp [hq]
        · rw [if_pos (.inr hq)]
          simp [hq]
      · have h0 : (i : Int) = 0:=of_decide_eq_true (by assumption)
        skip
        refine ⟨(l[i],true),(by (refine wk_auto ?_; refine Sel4.mk rfl rfl ?_ ?_ <;> (repeat' (first | exact True.intro | exact rfl | exact Or.inl rfl | exact Or.inr rfl | refine And.intro ?_ ?_ | fail)))),?_⟩
        rw [accM_7 hlt rfl,← ho,if_pos (.inl (by omega))]
        simp
    · repeat' first | (refine fun (b : Bool) hb=>?_; cases b <;> (first | exact absurd hb (by decide) | exact Bool.noConfusion (show true = false from hb) | exact Bool.noConfusion (show false = true from hb) | skip)) | fail
      refine ⟨(l[i],false),(by (refine wk_auto ?_; refine Sel4.mk rfl rfl ?_ ?_ <;> (repeat' (first | exact True.intro | exact rfl | exact Or.inl rfl | exact Or.inr rfl | refine And.intro ?_ ?_ | fail)))),?_⟩
      rw [accM_8 rfl,ho,accM_8 rfl]
      simp
    · repeat' first | (refine fun (b : Bool) hb=>?_; cases b <;> (first | exact absurd hb (by decide) | exact Bool.noConfusion (show true = false from hb) | exact Bool.noConfusion (show false = true from hb) | skip)) | fail
      refine ⟨(l[i],decide ((i : Int) < cn)),(by (refine wk_auto ?_; refine Sel4.mk rfl rfl ?_ ?_ <;> (repeat' (first | exact True.intro | exact rfl | exact Or.inl rfl | exact Or.inr rfl | refine And.intro ?_ ?_ | fail)))),?_⟩
      rw [accM_9 hlt rfl,← ho]
      simp
    · have hn0 : 0 ≤ cn := by
        unfold checkCmd useN at hc
        grind
      have hn1 : cn ≤ 1000:=by
        unfold checkCmd useN at hc
        grind
      repeat' first | (refine fun (b : Bool) hb=>?_; cases b <;> (first | exact absurd hb (by decide) | exact Bool.noConfusion (show true = false from hb) | exact Bool.noConfusion (show false = true from hb) | skip)) | (refine fun (hl : _ ≤ MAXL)=>?_) | refine And.intro (a:=I64 _) ?_ ?_ | fail
      · unfold I64
        dsimp only
        omega
      refine ⟨(l[i],decide ((l.length : Int) - cn ≤ (i : Int))),(by (refine wk_auto ?_; refine Sel4.mk rfl rfl ?_ ?_ <;> (repeat' (first | exact True.intro | exact rfl | exact Or.inl rfl | exact Or.inr rfl | refine And.intro ?_ ?_ | fail)))),?_⟩
      rw [accM_10 hlt rfl hn0,← ho]
      simp
  obtain ⟨s,kp⟩:=s
  dsimp only at hst
  cases kp
  · repeat' first | (refine fun (b : Bool) hb=>?_; cases b <;> (first | exact absurd hb (by decide) | exact Bool.noConfusion (show true = false from hb) | exact Bool.noConfusion (show false = true from hb) | skip)) | refine And.intro (a:=I64 _) ?_ ?_ | fail
    · unfold I64
      dsimp only
      omega
    refine ⟨(i + 1,out),(by (refine wk_auto ?_; refine Sel4.mk rfl rfl ?_ ?_ <;> (repeat' (first | exact True.intro | exact rfl | exact Or.inl rfl | exact Or.inr rfl | refine And.intro ?_ ?_ | fail)))),⟨?_,hlt⟩,?_⟩
    · show out = accM c l (i + 1)
      rw [hst]
      simp
    · show l.length - (i + 1) < l.length - i
      omega
  · repeat' first | (refine fun (b : Bool) hb=>?_; cases b <;> (first | exact absurd hb (by decide) | exact Bool.noConfusion (show true = false from hb) | exact Bool.noConfusion (show false = true from hb) | skip)) | refine And.intro (a:=I64 _) ?_ ?_ | refine And.intro (a:=_ ≤ 140737488355328) ?_ ?_ | refine ⟨rfl,?_⟩ | fail
    · show ((out.map strV).length + 1) * 16 ≤ 140737488355328
      rw [List.length_map]
      omega
    · unfold I64
      dsimp only
      omega
    refine ⟨(i + 1,out ++ [s]),?_,⟨?_,hlt⟩,?_⟩
    rotate_left
    · show out ++ [s] = accM c l (i + 1)
      rw [hst]
      simp
    · show l.length - (i + 1) < l.length - i
      omega
    (refine wk_auto ?_; refine Sel4.mk rfl rfl ?_ ?_ <;> (repeat' (first | exact True.intro | exact rfl | exact Or.inl rfl | exact Or.inr rfl | refine And.intro ?_ ?_ | fail)))
    show Row.row 1 _ = Row.row 1 _
    simp
    rfl
end Gv
namespace Gv
variable [Glob] [Laid] [Nums]
theorem lineMadeR_ca : callable Tryz.prog 37 = true:=by kernel_rfl
def lineMadeR_S : Spec:=fun args K=>∃ (F : List FileS) (f : List Bs) (c : List Cmd) (t : Bs),args = [.sl fileV F,.agg [.sl strV f,.sl cmdV c,.str t]] ∧ (checkFiles F = 0 ∧ checkLine ⟨f,c,t⟩ = 0) ∧ K (.tup [.sl byteV (shellLine F ⟨f,c,t⟩).1,.int .i64 (shellLine F ⟨f,c,t⟩).2])
noncomputable def lineMadeR_lib : List (Nat × Spec):=[(40,gatheredR_S),(89,linesOfR_S),(88,madeR_S),(87,bytesOfR_S)]
noncomputable def lineMadeR_fns : List (Nat × FnI):=[]
noncomputable def lineMadeR_prims : List (Nat × PSpec):=[]
theorem lineMadeR_E : EnvOK ⟨Tryz.prog,tys,lineMadeR_lib,lineMadeR_fns,lineMadeR_prims,[]⟩:=env_ok mixed0 tys0 (.cons gatheredR_ca gatheredR_ok (.cons linesOfR_ca linesOfR_ok (.cons madeR_ca madeR_ok (.cons bytesOfR_ca bytesOfR_ok .nil)))) .nil .nil rfl
set_option maxHeartbeats 8000000 in
theorem lineMadeR_ok : Pure Tryz.prog 37 lineMadeR_S:=by
  refine pure_by lineMadeR_E 6 (fi:={fn:=Tryz.f37,hooks:=[],draws:=[(7,[0,0,2,7,15,31])]}) ⟨Tryz.func37,by kernel_rfl,by kernel_rfl⟩ ?_
  rintro _ K ⟨F,f,c,t,rfl,⟨hF,hc⟩,hK⟩
  replace hK : ∀ r,r = .tup [.sl byteV (shellLine F ⟨f,c,t⟩).1,.int .i64 (shellLine F ⟨f,c,t⟩).2] → K r:=fun r h=>h ▸ hK
  skip
  refine ⟨F,f,rfl,hF,?_⟩
  obtain ⟨g,hg⟩ : ∃ g,gatherS F f = g:=⟨_,rfl⟩
  rw [hg]
  repeat' first | (refine fun (b : Bool) hb=>?_; cases b <;> (first | exact absurd hb (by decide) | exact Bool.noConfusion (show true = false from hb) | exact Bool.noConfusion (show false = true from hb) | skip)) | (refine fun (hl : _ ≤ MAXL)=>?_) | fail
  rotate_left
  · have h0 : g.2 ≠ 0:=by simpa using ‹(!decide (g.2 = 0)) = true›
    conv=>whnf
    skip
    refine ⟨UInt8,byteV,?_⟩
    refine hK _ ?_
    unfold shellLine
    rw [if_neg (fun h=>h hc),hg,if_pos h0]
  have h0 : g.2 = 0:=by simpa using ‹(!decide (g.2 = 0)) = false›
  obtain ⟨k1,k2,k3,k4,k5,k6,k7⟩:=gather_val (F:=F) (f:=f) (by rw [hg]; exact h0)
  have hsl:=shell_line (F:=F) hc (by show (gatherS F f).2 = 0; rw [hg]; exact h0)
  dsimp only at hsl
  rw [hsl,k7] at hK
  rw [hg] at k6
  have hcm:=line_parts hc
  dsimp only at hcm
  have hno : ∀ i,NoNl (doLines (c.take i) (allOf F f)):=fun i=>doLines_no (fun x hx=>hcm x (List.mem_of_mem_take hx)) k3
  have hln : ∀ i,(put (doLines (c.take i) (allOf F f))).length ≤ 4000:=fun i=>doLines_put4 (fun x hx=>hcm x (List.mem_of_mem_take hx)) k4
  have hli : ∀ i,linesOf (put (doLines (c.take i) (allOf F f))) = doLines (c.take i) (allOf F f):=fun i=>linesOf_put (hno i)
  have hel : ∀ i,∀ s ∈ doLines (c.take i) (allOf F f),s.length ≤ 100000:=fun i s hs=>by
    have:=put_el hs
    have:=hln i
    omega
  conv=>whnf
  skip
  rw [k6]
  conv=>whnf
  refine loop_live [21,22] (σ:=Nat) (fun i=>[(23,.int .i64 i),(6,.sl byteV (put (doLines (c.take i) (allOf F f))))]) (fun _=>[.box [.sl strV f,.sl cmdV c,.str t]]) (fun i=>i ≤ c.length) (fun i=>c.length - i) 0 ?_
  conv=>whnf
  refine ⟨(by (refine wk_auto ?_; refine Sel4.mk rfl rfl ?_ ?_ <;> (repeat' (first | exact True.intro | exact rfl | exact Or.inl rfl | exact Or.inr rfl | refine And.intro ?_ ?_ | fail)))),Nat.zero_le _,fun i hi=>?_⟩
  have hl:=hli i
  have h4:=hln i
  repeat' first | exact True.intro | (refine fun (b : Bool) hb=>?_; cases b <;> (first | exact absurd hb (by decide) | exact Bool.noConfusion (show true = false from hb) | exact Bool.noConfusion (show false = true from hb) | skip)) | refine ⟨_,⟨rfl,rfl⟩,?_⟩ | refine And.intro (a:=chkPast _ _ _ _ _ _ _ _) ?_ ?_ | refine ⟨_,rfl,?_,rfl,?_⟩ | fail
  · have hge : ¬ (i : Int) < (c.length : Int):=of_decide_eq_false (by assumption)
    have hie : i = c.length:=by omega
    subst hie
    rw [List.take_length]
    conv=>whnf
    skip
    exact hK _ rfl
  · have h:=of_decide_eq_true (by assumption : decide ((i : Int) < (c.length : Int)) = true)
    omega
  have hlt : i < c.length:=by
    have h:=of_decide_eq_true (by assumption : decide ((i : Int) < (c.length : Int)) = true)
    omega
  have hel':=hel i
  have hc6:=(checkLine_ok hc).1
  dsimp only at hc6
  have h5:=hln (i + 1)
  rw [doLines_take hlt] at h5
  conv=>whnf
  skip
  refine ⟨.sl strV (doLines (c.take i) (allOf F f)),⟨put (doLines (c.take i) (allOf F f)),rfl,by omega,by rw [hl],rfl⟩,?_⟩
  conv=>whnf
  skip
  refine ⟨_,⟨c[i],doLines (c.take i) (allOf F f),rfl,⟨hcm _ (List.getElem_mem _),by have:=put_len h4; omega,hel'⟩,rfl,rfl⟩,?_⟩
  conv=>whnf
  skip
  refine ⟨_,⟨linesC c[i] (doLines (c.take i) (allOf F f)),rfl,by omega,rfl,rfl⟩,?_⟩
  conv=>whnf
  repeat' first | refine And.intro (a:=I64 _) ?_ ?_ | refine ⟨_,⟨rfl,rfl⟩,?_⟩ | fail
  · unfold I64; omega
  conv=>whnf
  skip
  refine ⟨i + 1,?_,hlt,by omega⟩
  rw [doLines_take hlt]
  exact (by (refine wk_auto ?_; refine Sel4.mk rfl rfl ?_ ?_ <;> (repeat' (first | exact True.intro | exact rfl | exact Or.inl rfl | exact Or.inr rfl | refine And.intro ?_ ?_ | fail))))
end Gv
namespace Gv
variable [Glob] [Laid] [Nums]
def shSays_S : Spec:=fun args K=>∃ (F : List FileS) (s : List LineS) (n b : Bs) (m : List FileS),args = [.sl fileV F,.sl lineV s,.str n,.sl byteV b,.sl fileV m] ∧ K (.bool true)
noncomputable def shSays_lib : List (Nat × Spec):=[(27,getF_S),(28,putF_S),(29,runS_S),(32,cfiles_S),(30,cfilesR_S),(31,shelledF_S),(33,sameFS_S),(15,sameF_S),(34,putR_S),(35,fileOfR_S),(18,equalB_S),(36,checkSR_S),(38,lineF_S),(37,lineMadeR_S),(39,gather_S),(40,gatheredR_S)]
noncomputable def shSays_fns : List (Nat × FnI):=[]
noncomputable def shSays_prims : List (Nat × PSpec):=[]
theorem shSays_E : EnvOK ⟨Tryz.prog,tys,shSays_lib,shSays_fns,shSays_prims,[]⟩:=env_ok mixed0 tys0 (.cons getF_ca getF_ok (.cons putF_ca putF_ok (.cons runS_ca runS_ok (.cons cfiles_ca cfiles_ok (.cons cfilesR_ca cfilesR_ok (.cons shelledF_ca shelledF_ok (.cons sameFS_ca sameFS_ok (.cons sameF_ca sameF_ok (.cons putR_ca putR_ok (.cons fileOfR_ca fileOfR_ok (.cons equalB_ca equalB_ok (.cons checkSR_ca checkSR_ok (.cons lineF_ca lineF_ok (.cons lineMadeR_ca lineMadeR_ok (.cons gather_ca gather_ok (.cons gatheredR_ca gatheredR_ok .nil)))))))))))))))) .nil .nil rfl
set_option maxHeartbeats 16000000 in
theorem shSays_ok : Pure Tryz.prog 6 shSays_S:=by
  refine pure_by shSays_E 6 (fi:={fn:=Tryz.f6,hooks:=[],draws:=[]}) ⟨Tryz.func6,by kernel_rfl,by kernel_rfl⟩ ?_
  rintro _ K ⟨F,s,n,b,m,rfl,hK⟩
  replace hK : ∀ r,r = .bool true → K r:=fun r h=>h ▸ hK
  by_cases hF : checkFiles F = 0
  rotate_left
  · have e1 : getS F n = ([],checkFiles F):=by unfold getS; rw [if_pos hF]
    have e2 : putS F n b = ([],checkFiles F):=by unfold putS; rw [if_pos hF]
    have e3 : runL shellLine F s = ([],checkFiles F):=by unfold runL; rw [if_pos hF]
    skip
    refine ⟨F,n,rfl,?_⟩
    rw [e1]
    skip
    refine ⟨F,n,b,rfl,?_⟩
    rw [e2]
    skip
    refine ⟨F,s,rfl,?_⟩
    rw [e3]
    skip
    refine ⟨F,rfl,?_⟩
    repeat' first | (refine fun (b : Bool) hb=>?_; cases b <;> (first | exact absurd hb (by decide) | exact Bool.noConfusion (show true = false from hb) | exact Bool.noConfusion (show false = true from hb) | skip)) | refine ⟨rfl,?_⟩ | fail
    conv=>whnf
    skip
    refine ⟨F,rfl,?_⟩
    repeat' first | (refine fun (b : Bool) hb=>?_; cases b <;> (first | exact absurd hb (by decide) | exact Bool.noConfusion (show true = false from hb) | exact Bool.noConfusion (show false = true from hb) | skip)) | fail
    rotate_left
    · exact absurd ‹(!decide (checkFiles F = checkFiles F)) = true› (by simp)
    conv=>whnf
    skip
    refine ⟨F,m,rfl,?_⟩
    skip
    refine ⟨F,m,rfl,?_⟩
    repeat' first | (refine fun (b : Bool) hb=>?_; cases b <;> (first | exact absurd hb (by decide) | exact Bool.noConfusion (show true = false from hb) | exact Bool.noConfusion (show false = true from hb) | skip)) | (refine fun (hl : _ ≤ MAXL)=>?_) | refine And.intro (a:=I64 _) ?_ ?_ | fail
    all_goals first | (simp at hb; done) | (simp [hF] at hb; done) | skip
    · unfold I64; dsimp only [List.length]; omega
    · unfold I64; dsimp only [List.length]; omega
    conv=>whnf
    skip
    all_goals exact hK _ rfl
  obtain ⟨p,hp⟩ : ∃ p,putS F n b = p:=⟨_,rfl⟩
  obtain ⟨r,hr⟩ : ∃ r,runL shellLine F s = r:=⟨_,rfl⟩
  skip
  refine ⟨F,n,rfl,?_⟩
  rw [getS_ok hF]
  skip
  refine ⟨F,n,b,rfl,?_⟩
  rw [hp]
  skip
  refine ⟨F,s,rfl,?_⟩
  rw [hr]
  skip
  refine ⟨F,rfl,?_⟩
  rw [hF]
  repeat' first | (refine fun (b : Bool) hb=>?_; cases b <;> (first | exact absurd hb (by decide) | exact Bool.noConfusion (show true = false from hb) | exact Bool.noConfusion (show false = true from hb) | skip)) | refine ⟨rfl,?_⟩ | fail
  conv=>whnf
  skip
  refine ⟨F,rfl,?_⟩
  rw [hF]
  repeat' first | (refine fun (b : Bool) hb=>?_; cases b <;> (first | exact absurd hb (by decide) | exact Bool.noConfusion (show true = false from hb) | exact Bool.noConfusion (show false = true from hb) | skip)) | fail
  conv=>whnf
  skip
  refine ⟨F,m,rfl,?_⟩
  skip
  refine ⟨F,m,rfl,?_⟩
  repeat' first | (refine fun (b : Bool) hb=>?_; cases b <;> (first | exact absurd hb (by decide) | exact Bool.noConfusion (show true = false from hb) | exact Bool.noConfusion (show false = true from hb) | skip)) | fail
  all_goals first | (simp at hb; done) | (simp [hF] at hb; done) | skip
  conv=>whnf
  skip
  all_goals first | (simp at hb; done) | (simp [hF] at hb; done) | skip
  refine ⟨F,n,b,rfl,hF,?_⟩
  rw [hp]
  repeat' first | (refine fun (b : Bool) hb=>?_; cases b <;> (first | exact absurd hb (by decide) | exact Bool.noConfusion (show true = false from hb) | exact Bool.noConfusion (show false = true from hb) | skip)) | fail
  all_goals first | (simp at hb; done) | (simp [hF] at hb; done) | skip
  refine ⟨F,n,rfl,?_⟩
  skip
  refine ⟨getN F n,getN F n,rfl,?_⟩
  repeat' first | (refine fun (b : Bool) hb=>?_; cases b <;> (first | exact absurd hb (by decide) | exact Bool.noConfusion (show true = false from hb) | exact Bool.noConfusion (show false = true from hb) | skip)) | fail
  all_goals first | (simp at hb; done) | (simp [hF] at hb; done) | skip
  conv=>whnf
  skip
  all_goals first | (simp at hb; done) | (simp [hF] at hb; done) | skip
  refine ⟨p.1,p.1,rfl,?_⟩
  repeat' first | (refine fun (b : Bool) hb=>?_; cases b <;> (first | exact absurd hb (by decide) | exact Bool.noConfusion (show true = false from hb) | exact Bool.noConfusion (show false = true from hb) | skip)) | fail
  all_goals first | (simp at hb; done) | (simp [hF] at hb; done) | skip
  conv=>whnf
  skip
  refine ⟨s,rfl,?_⟩
  have hr2 : r = if checkS s ≠ 0 then ([],checkS s) else runGoL shellLine F s:=by rw [← hr]; unfold runL; rw [if_neg (fun h=>h hF)]
  repeat' first | (refine fun (hl : _ ≤ MAXL)=>?_) | fail
  conv=>whnf
  refine loop_live [15,16,127,128] (σ:=Nat × List FileS × Int) (fun z=>[(129,.int .i64 z.1),(20,.int .i64 z.2.2),(21,.sl fileV z.2.1)]) (fun _=>[]) (fun z=>z.1 ≤ s.length ∧ (z.2.2 = 0 → checkS s = 0 ∧ checkFiles z.2.1 = 0 ∧ runGoL shellLine z.2.1 (s.drop z.1) = r) ∧ (z.2.2 ≠ 0 → r = ([],z.2.2))) (fun z=>s.length - z.1) (0,F,checkS s) ?_
  conv=>whnf
  refine ⟨(by (refine wk_auto ?_; refine Sel4.mk rfl rfl ?_ ?_ <;> (repeat' (first | exact True.intro | exact rfl | exact Or.inl rfl | exact Or.inr rfl | refine And.intro ?_ ?_ | fail)))),⟨Nat.zero_le _,fun h=>⟨h,hF,by rw [hr2,if_neg (fun h'=>h' h)]; rfl⟩,fun h=>by rw [hr2,if_pos h]⟩,fun z hz=>?_⟩
  obtain ⟨i,G,w⟩:=z
  obtain ⟨hi,h0,h1⟩:=hz
  dsimp only at hi h0 h1
  by_cases hw : w = 0
  rotate_left
  · have e3:=h1 hw
    subst e3
    repeat' first | (refine fun (b : Bool) hb=>?_; cases b <;> (first | exact absurd hb (by decide) | exact Bool.noConfusion (show true = false from hb) | exact Bool.noConfusion (show false = true from hb) | skip)) | (refine fun (hl : _ ≤ MAXL)=>?_) | refine ⟨_,rfl,?_,rfl,?_⟩ | fail
    all_goals first | (simp at hb; done) | exact absurd ‹(!decide (w = 0)) = false› (by simp [hw]) | (have h:=of_decide_eq_true ‹decide ((i : Int) < (s.length : Int)) = true›; show i < s.length; omega) | skip
    all_goals
      conv=>whnf
      skip
      exact hK _ rfl
  by_cases hlt : i < s.length
  rotate_left
  · have e : s.drop i = []:=List.drop_eq_nil_of_le (by omega)
    rw [e] at h0
    have e3 : r = (G,0):=(h0 hw).2.2.symm
    subst e3 hw
    repeat' first | (refine fun (b : Bool) hb=>?_; cases b <;> (first | exact absurd hb (by decide) | exact Bool.noConfusion (show true = false from hb) | exact Bool.noConfusion (show false = true from hb) | skip)) | refine ⟨_,rfl,?_,rfl,?_⟩ | fail
    all_goals first | (simp at hb; done) | (have h:=of_decide_eq_true ‹decide ((i : Int) < (s.length : Int)) = true›; exfalso; omega) | skip
    conv=>whnf
    skip
    all_goals first | (simp at hb; done) | skip
    refine ⟨G,G,rfl,?_⟩
    skip
    refine hK _ ?_
    simp
  subst hw
  obtain ⟨d1,d2,d3⟩:=h0 rfl
  have hx:=(checkS_of d1).2 _ (List.getElem_mem hlt)
  rw [List.drop_eq_getElem_cons hlt,runGoL] at d3
  obtain ⟨z,hz⟩ : ∃ z,shellLine G ⟨s[i].frm,s[i].cmds,s[i].to⟩ = z:=⟨_,rfl⟩
  obtain ⟨g,hg⟩ : ∃ g,gatherS G s[i].frm = g:=⟨_,rfl⟩
  obtain ⟨q,hq⟩ : ∃ q,putS G s[i].to z.1 = q:=⟨_,rfl⟩
  have hz' : shellLine G s[i] = z:=hz
  rw [hz',hq] at d3
  have h6:=(checkS_of d1).1
  have f1 : z.2 ≠ 0 → r = ([],z.2):=fun h=>by rw [if_pos h] at d3; exact d3.symm
  have f2 : z.2 = 0 → q.2 = 0 → checkFiles q.1 = 0 ∧ runGoL shellLine q.1 (s.drop (i + 1)) = r:=fun h h'=>⟨(putS_ok hq h').2.2.2.2,by rw [if_neg (fun e=>e h),if_neg (fun e=>e h')] at d3; exact d3⟩
  have f3 : z.2 = 0 → q.2 ≠ 0 → r = ([],q.2):=fun h h'=>by rw [if_neg (fun e=>e h),if_pos h'] at d3; exact d3.symm
  repeat' first | (refine fun (b : Bool) hb=>?_; cases b <;> (first | exact absurd hb (by decide) | exact Bool.noConfusion (show true = false from hb) | exact Bool.noConfusion (show false = true from hb) | skip)) | refine ⟨_,rfl,?_,rfl,?_⟩ | fail
  all_goals first | (simp at hb; done) | (have h:=of_decide_eq_false ‹decide ((i : Int) < (s.length : Int)) = false›; exfalso; omega) | (show i < s.length; exact hlt) | skip
  conv=>whnf
  skip
  refine ⟨G,s[i].frm,s[i].cmds,s[i].to,rfl,⟨d2,hx⟩,?_⟩
  rw [hz]
  skip
  refine ⟨G,s[i].frm,s[i].cmds,s[i].to,rfl,?_⟩
  rw [hz]
  skip
  refine ⟨G,s[i].frm,rfl,?_⟩
  rw [hg]
  skip
  refine ⟨G,s[i].frm,rfl,d2,?_⟩
  rw [hg]
  repeat' first | (refine fun (b : Bool) hb=>?_; cases b <;> (first | exact absurd hb (by decide) | exact Bool.noConfusion (show true = false from hb) | exact Bool.noConfusion (show false = true from hb) | skip)) | fail
  all_goals first | (simp at hb; done) | skip
  refine ⟨z.1,z.1,rfl,?_⟩
  repeat' first | (refine fun (b : Bool) hb=>?_; cases b <;> (first | exact absurd hb (by decide) | exact Bool.noConfusion (show true = false from hb) | exact Bool.noConfusion (show false = true from hb) | skip)) | refine And.intro (a:=I64 _) ?_ ?_ | fail
  all_goals first | (simp at hb; done) | skip
  · unfold I64; dsimp only; omega
  · have h0 : z.2 ≠ 0:=by simpa using hb
    conv=>whnf
    skip
    exact ⟨(i + 1,G,z.2),(by (refine wk_auto ?_; refine Sel4.mk rfl rfl ?_ ?_ <;> (repeat' (first | exact True.intro | exact rfl | exact Or.inl rfl | exact Or.inr rfl | refine And.intro ?_ ?_ | fail)))),⟨hlt,fun h=>absurd h h0,f1⟩,by show s.length - (i + 1) < s.length - i; omega⟩
  · have h0 : z.2 = 0:=by simpa using hb
    conv=>whnf
    skip
    refine ⟨G,s[i].to,z.1,rfl,d2,?_⟩
    rw [hq]
    repeat' first | refine And.intro (a:=I64 _) ?_ ?_ | fail
    · unfold I64; dsimp only; omega
    conv=>whnf
    skip
    exact ⟨(i + 1,q.1,q.2),(by (refine wk_auto ?_; refine Sel4.mk rfl rfl ?_ ?_ <;> (repeat' (first | exact True.intro | exact rfl | exact Or.inl rfl | exact Or.inr rfl | refine And.intro ?_ ?_ | fail)))),⟨hlt,fun h=>⟨d1,f2 h0 h⟩,f3 h0⟩,by show s.length - (i + 1) < s.length - i; omega⟩
  conv=>whnf
  skip
  all_goals first | (simp at hb; done) | skip
  refine ⟨g.1,g.1,rfl,?_⟩
  repeat' first | (refine fun (b : Bool) hb=>?_; cases b <;> (first | exact absurd hb (by decide) | exact Bool.noConfusion (show true = false from hb) | exact Bool.noConfusion (show false = true from hb) | skip)) | refine And.intro (a:=I64 _) ?_ ?_ | fail
  all_goals first | (simp at hb; done) | skip
  · unfold I64; dsimp only; omega
  · have h0 : z.2 ≠ 0:=by simpa using hb
    conv=>whnf
    skip
    exact ⟨(i + 1,G,z.2),(by (refine wk_auto ?_; refine Sel4.mk rfl rfl ?_ ?_ <;> (repeat' (first | exact True.intro | exact rfl | exact Or.inl rfl | exact Or.inr rfl | refine And.intro ?_ ?_ | fail)))),⟨hlt,fun h=>absurd h h0,f1⟩,by show s.length - (i + 1) < s.length - i; omega⟩
  · have h0 : z.2 = 0:=by simpa using hb
    conv=>whnf
    skip
    refine ⟨G,s[i].to,z.1,rfl,d2,?_⟩
    rw [hq]
    repeat' first | refine And.intro (a:=I64 _) ?_ ?_ | fail
    · unfold I64; dsimp only; omega
    conv=>whnf
    skip
    exact ⟨(i + 1,q.1,q.2),(by (refine wk_auto ?_; refine Sel4.mk rfl rfl ?_ ?_ <;> (repeat' (first | exact True.intro | exact rfl | exact Or.inl rfl | exact Or.inr rfl | refine And.intro ?_ ?_ | fail)))),⟨hlt,fun h=>⟨d1,f2 h0 h⟩,f3 h0⟩,by show s.length - (i + 1) < s.length - i; omega⟩
end Gv
namespace Gv
variable [Glob] [Laid]
theorem opn_cmd : Opn Tryz.prog 38 cmdV (fun _=>True):=⟨fun en w fuel cs d p h hw=>by
  have hl : cs.length = 3:=(opn_width Tryz.underlying38 h).trans (by kernel_rfl)
  obtain ⟨k,_,f1⟩:=opn_field 0 0 1 (T:=3) Tryz.underlying38 rfl rfl rfl (by kernel_rfl) (opn_int Tryz.underlying3) h hw
  obtain ⟨s,_,f2⟩:=opn_field 1 1 1 (T:=9) Tryz.underlying38 rfl rfl rfl (by kernel_rfl) (opn_str Tryz.underlying9) h hw
  obtain ⟨n,_,f3⟩:=opn_field 2 2 1 (T:=3) Tryz.underlying38 rfl rfl rfl (by kernel_rfl) (opn_int Tryz.underlying3) h hw
  have:=Fit.cons 0 1 f1 rfl (Fit.cons 1 2 f2 rfl (Fit.cons 2 3 f3 rfl (Fit.last 3 hl)))
  rw [List.drop_zero] at this
  exact ⟨⟨k,s,n⟩,trivial,this⟩⟩
end Gv
namespace Gv
variable [Glob] [Laid]
def lineCells (l : LineS) : List V:=[.sl strV l.frm,.sl cmdV l.cmds,.str l.to]
theorem opn_line : Opn Tryz.prog 68 (fun l=>.agg (lineCells l)) (fun _=>True):=⟨fun en w fuel cs d p h hw=>by
  have hl : cs.length = 3:=(opn_width Tryz.underlying68 h).trans (by kernel_rfl)
  obtain ⟨k,_,f1⟩:=opn_field 0 0 1 (T:=65) Tryz.underlying68 rfl rfl rfl (by kernel_rfl) (opn_slice (k:=1) Tryz.underlying65 (by kernel_rfl) (by omega) (opn_str Tryz.underlying9)) h hw
  obtain ⟨s,_,f2⟩:=opn_field 1 1 1 (T:=66) Tryz.underlying68 rfl rfl rfl (by kernel_rfl) (opn_slice (k:=3) Tryz.underlying66 (by kernel_rfl) (by omega) opn_cmd) h hw
  obtain ⟨n,_,f3⟩:=opn_field 2 2 1 (T:=9) Tryz.underlying68 rfl rfl rfl (by kernel_rfl) (opn_str Tryz.underlying9) h hw
  have:=Fit.cons 0 1 f1 rfl (Fit.cons 1 2 f2 rfl (Fit.cons 2 3 f3 rfl (Fit.last 3 hl)))
  rw [List.drop_zero] at this
  exact ⟨⟨k,s,n⟩,trivial,this⟩⟩
end Gv
namespace Gv
variable [Glob] [Laid]
theorem opn_file : Opn Tryz.prog 56 fileV (fun _=>True):=⟨fun en w fuel cs d p h hw=>by
  have hl : cs.length = 2:=(opn_width Tryz.underlying56 h).trans (by kernel_rfl)
  obtain ⟨k,_,f1⟩:=opn_field 0 0 1 (T:=9) Tryz.underlying56 rfl rfl rfl (by kernel_rfl) (opn_str Tryz.underlying9) h hw
  obtain ⟨n,_,f3⟩:=opn_field 1 1 1 (T:=28) Tryz.underlying56 rfl rfl rfl (by kernel_rfl) (opn_slice (k:=1) Tryz.underlying28 (by kernel_rfl) (by omega) (opn_byte Tryz.underlying5)) h hw
  have:=Fit.cons 0 1 f1 rfl (Fit.cons 1 2 f3 rfl (Fit.last 2 hl))
  rw [List.drop_zero] at this
  exact ⟨⟨k,n⟩,trivial,this⟩⟩
end Gv
namespace Gv
variable [Glob] [Laid] [Nums]
theorem shSaysT_ok : Pure Tryz.prog 6 shSays_S:=shSays_ok
end Gv
