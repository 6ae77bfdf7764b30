/- What functions of the program come to, part 3: in every world; the conditions stand in each theorem. -/
import Derived.Test.YtffljdmmambdjacGreatDoorF2
set_option linter.unusedVariables false
set_option linter.unusedSectionVars false
set_option linter.unusedSimpArgs false
open Go Go.Proofs Gw Gp
namespace Gv
variable [Glob] [Laid] [Nums] [Errs]
def overM (m : MachS) : Bool:=m.p.all fun p=>p.over
end Gv
namespace Gv
variable [Glob] [Laid] [Nums] [Errs]
theorem planS_ok {l : LineS} {w : Int} {r : List Gp.Node × Int} (hr : plan l w = r) (h0 : r.2 = 0) : checkLine l = 0 ∧ (1 ≤ w ∧ w ≤ 5) ∧ r = (planNodes l w,0):=by
  unfold plan at hr
  split at hr
  · rename_i h1
    rw [← hr] at h0
    exact absurd h0 h1
  · rename_i h1
    split at hr
    · rw [← hr] at h0
      exact absurd h0 (show ¬ (3 : Int) = 0 by decide)
    · exact ⟨Decidable.not_not.1 h1,by omega,hr.symm⟩
structure Goes (g : List Gp.Node) (f : List FileS) (rm : Int) (v : Bs) : Prop where
  fresh : Ok f g rm (freshM g f rm)
  steps : Steps (Ok f g rm)
  ev : evalG g f = (v,0)
  ck : ∀ m,Ok f g rm m → checkMach m = 0
  pre : ∀ m,Ok f g rm m → m.sunk <+: v
  fin : ∀ m,Ok f g rm m → ∃ n M,FinN n m (M,0) ∧ Ok f g rm M ∧ overM M = true ∧ M.sunk = v
  over : ∀ m,Ok f g rm m → overM m = true → m.sunk = v
  can : ∀ m,Ok f g rm m → overM m = false → ∃ i,i < g.length ∧ (stepM m i).2 = 0
theorem overM_iff {m : MachS} {g : List Gp.Node} (h : m.p.length = g.length) : overM m = true ↔ ∀ i,i < g.length → (pr m i).over = true:=by
  unfold overM
  rw [List.all_eq_true]
  constructor
  · intro h1 i hi
    rw [pr_at (by omega)]
    exact h1 _ (List.getElem_mem (by omega))
  · intro h1 p hp
    obtain ⟨i,hi,rfl⟩:=List.getElem_of_mem hp
    rw [← pr_at hi]
    exact h1 i (by omega)
theorem rnd_over {m : MachS} : ∀ (l : List Nat),(∀ i ∈ l,(pr m i).over = true) → rndGo l (m,true,false) = (m,true,false)
  | [],_=>rfl
  | i :: r,h=>by
    have h1:=h i (by simp)
    have hs : stepM m i = (m,7):=by unfold stepM; rw [if_pos h1]
    rw [rndGo,hs]
    dsimp only
    rw [h1]
    exact rnd_over r fun j hj=>h j (by simp [hj])
theorem goes {g : List Gp.Node} {f : List FileS} {rm : Int} (hg : checkG g = 0) (h4 : cnt 1 g ≤ 4) (hf : checkFiles f = 0) (h1 : 1 ≤ rm ∧ rm ≤ 1000) : Goes g f rm (evalG g f).1:=by
  obtain ⟨e1,e2,e3⟩:=exec_law hg h4 hf h1
  have hfin : ∀ m,Ok f g rm m → ∃ n M,FinN n m (M,0) ∧ Ok f g rm M ∧ overM M = true ∧ M.sunk = (evalG g f).1:=fun m hm=>by
    obtain ⟨-,-,⟨n,M,a,b,c,d⟩,-⟩:=e2 m hm
    exact ⟨n,M,a,b,(overM_iff b.sh.np).2 c,d⟩
  refine ⟨e1,ok_steps hg fun m hm=>(e2 m hm).1,Prod.ext rfl e3,fun m hm=>(e2 m hm).1,fun m hm=>(e2 m hm).2.1,hfin,fun m hm ho=>?_,fun m hm ho=>?_⟩
  · obtain ⟨n,M,a,b,c,d⟩:=hfin m hm
    have ho':=(overM_iff hm.sh.np).1 ho
    have hr : rnd m = (m,true,false):=rnd_over _ fun i hi=>ho' i (by have:=hm.sh.np; have:=List.mem_range.1 hi; omega)
    have hF : FinN 0 m ((rnd m).1,0):=.over (by rw [hr])
    have:=(a.uniq hF).2
    rw [hr] at this
    have : M = m:=congrArg Prod.fst this
    rw [← this,d]
  · refine (e2 m hm).2.2.2 ?_
    have : ¬ overM m = true:=by rw [ho]; decide
    rw [overM_iff hm.sh.np] at this
    rcases Classical.em (∃ i,i < g.length ∧ (pr m i).over = false) with h | h
    · exact h
    · refine absurd (fun i hi=>?_) this
      cases hh : (pr m i).over with
      | true=>rfl
      | false=>exact absurd ⟨i,hi,hh⟩ h
end Gv
namespace Gv
variable [Glob] [Laid]
theorem gather_ca : callable Tryz.prog 39 = true:=by kernel_rfl
def gather_S : Spec:=fun args K=>∃ (l : List FileS) (f : List Bs),args = [.sl fileV l,.sl strV f] ∧ K (.tup [.sl byteV (gatherS l f).1,.int .i64 (gatherS l f).2])
noncomputable def gather_lib : List (Nat × Spec):=[(32,cfiles_S),(77,bytesF_S),(90,linesL_S),(93,put_S)]
noncomputable def gather_fns : List (Nat × FnI):=[]
noncomputable def gather_prims : List (Nat × PSpec):=[]
theorem gather_E : EnvOK ⟨Tryz.prog,tys,gather_lib,gather_fns,gather_prims,[]⟩:=env_ok mixed0 tys0 (.cons cfiles_ca cfiles_ok (.cons bytesF_ca bytesF_ok (.cons linesL_ca linesL_ok (.cons put_ca put_ok .nil)))) .nil .nil rfl
set_option maxHeartbeats 8000000 in
theorem gather_ok : Pure Tryz.prog 39 gather_S:=by
  refine pure_by gather_E 6 (fi:={fn:=Tryz.f39,hooks:=[],draws:=[]}) ⟨Tryz.func39,by kernel_rfl,by kernel_rfl⟩ ?_
  rintro _ K ⟨l,f,rfl,hK⟩
  replace hK : ∀ r,r = .tup [.sl byteV (gatherS l f).1,.int .i64 (gatherS l f).2] → K r:=fun r h=>h ▸ hK
  have hone : ∀ r : Bs × Int,gatherS l f = r → K (.tup [.sl byteV r.1,.int .i64 r.2]):=fun r h=>hK _ (by rw [h])
  unfold gatherS at hone
  refine ⟨l,rfl,?_⟩
  obtain ⟨e,he⟩ : ∃ e,checkFiles l = e:=⟨_,rfl⟩
  rw [he] at hone ⊢
  repeat' first | (refine fun (b : Bool) hb=>?_; cases b <;> (first | exact absurd hb (by decide) | exact Bool.noConfusion (show true = false from hb) | exact Bool.noConfusion (show false = true from hb) | skip)) | (refine fun (hl : _ ≤ MAXL)=>?_) | fail
  · have h0 : e = 0 := by
      have h : (!decide (e = 0)) = false:=by assumption
      simpa using h
    subst h0
    have hf4 : ¬ (4 : Int) < (f.length : Int):=of_decide_eq_false (by assumption)
    rw [if_neg (by simp),if_neg (by omega)] at hone
    have hfb:=(checkFiles_ok he).2
    have hwl : ∀ s,(whole (fileAt l s)).length ≤ 4001:=fun s=>by
      have h1:=fileAt_len (fun f hf=>(hfb f hf).2) s
      have h2:=whole_len (fileAt l s)
      omega
    skip
    conv=>whnf
    refine loop_live [0,19,20] (σ:=Nat × Bs) (fun s=>[(21,.int .i64 s.1),(7,.own 0)]) (fun s=>[.row 1 (s.2.map byteV)]) (fun s=>s.1 ≤ f.length ∧ gatherGo l s.2 (f.drop s.1) = gatherGo l [] f ∧ s.2.length ≤ 4000) (fun s=>f.length - s.1) (0,[]) ?_
    conv=>whnf
    refine ⟨(by (refine wk_auto ?_; refine Sel4.mk rfl rfl ?_ ?_ <;> (repeat' (first | exact True.intro | exact rfl | exact Or.inl rfl | exact Or.inr rfl | refine And.intro ?_ ?_ | fail)))),⟨Nat.zero_le _,rfl,by simp⟩,fun s hs=>?_⟩
    obtain ⟨i,out⟩:=s
    obtain ⟨hi,hg,ho⟩:=hs
    dsimp only at hi hg ho
    repeat' first | refine ⟨_,_,_,LeL.refl _,?_⟩ | (refine fun (b : Bool) hb=>?_; cases b <;> (first | exact absurd hb (by decide) | exact Bool.noConfusion (show true = false from hb) | exact Bool.noConfusion (show false = true from hb) | skip)) | refine ⟨_,rfl,?_,rfl,?_⟩ | fail
    · have hge : ¬ (i : Int) < (f.length : Int):=of_decide_eq_false (by assumption)
      have e : f.drop i = []:=List.drop_eq_nil_of_le (by omega)
      rw [e] at hg
      conv=>whnf
      exact hone _ hg.symm
    · have h:=of_decide_eq_true (by assumption : decide ((i : Int) < (f.length : Int)) = true)
      show i < f.length
      omega
    have hlt : i < f.length:=by
      have h:=of_decide_eq_true (by assumption : decide ((i : Int) < (f.length : Int)) = true)
      omega
    rw [List.drop_eq_getElem_cons hlt,gatherGo] at hg
    have hw:=hwl f[i]
    refine ⟨l,f[i],rfl,fun g hgm=>by have:=(hfb g hgm).2; omega,?_⟩
    refine ⟨fileAt l f[i],rfl,by have:=fileAt_len (fun f hf=>(hfb f hf).2) f[i]; omega,?_⟩
    refine ⟨linesOf (fileAt l f[i]),rfl,by unfold whole at hw; omega,?_⟩
    have hwe : put (linesOf (fileAt l f[i])) = whole (fileAt l f[i]):=rfl
    have hom : ((out.map byteV).length : Int) = (out.length : Int):=by rw [List.length_map]
    repeat' first | (refine fun (b : Bool) hb=>?_; cases b <;> (first | exact absurd hb (by decide) | exact Bool.noConfusion (show true = false from hb) | exact Bool.noConfusion (show false = true from hb) | skip)) | (refine fun (hl : _ ≤ MAXL)=>?_) | refine And.intro (a:=I64 _) ?_ ?_ | refine And.intro (a:=_ ≤ 140737488355328) ?_ ?_ | refine ⟨(fun _=>rfl),?_⟩ | fail
    · show I64 (4000 - ((out.map byteV).length : Int))
      rw [hom]
      unfold I64; omega
    · show ((out.map byteV).length + ((put (linesOf (fileAt l f[i]))).map byteV).length) * 1 ≤ 140737488355328
      rw [List.length_map,List.length_map,hwe]
      omega
    · unfold I64
      dsimp only
      omega
    · have h : ¬ ((4000 : Int) - ((out.map byteV).length : Int) < ((put (linesOf (fileAt l f[i]))).length : Int)):=of_decide_eq_false (by assumption)
      rw [hom,hwe] at h
      rw [if_neg (by omega)] at hg
      refine ⟨(i + 1,out ++ whole (fileAt l f[i])),?_,⟨hlt,hg,by show (out ++ _).length ≤ 4000; rw [List.length_append]; omega⟩,by show f.length - (i + 1) < f.length - i; omega⟩
      (refine wk_auto ?_; refine Sel4.mk rfl rfl ?_ ?_ <;> (repeat' (first | exact True.intro | exact rfl | exact Or.inl rfl | exact Or.inr rfl | refine And.intro ?_ ?_ | fail)))
      show Row.row 1 _ = Row.row 1 _
      rw [List.map_append]
      rfl
    · have h : ((4000 : Int) - ((out.map byteV).length : Int) < ((put (linesOf (fileAt l f[i]))).length : Int)):=of_decide_eq_true (by assumption)
      rw [hom,hwe] at h
      rw [if_pos (by omega)] at hg
      skip
      refine ⟨_,byteV,hone _ hg.symm⟩
  · have h0 : e = 0 := by
      have h : (!decide (e = 0)) = false:=by assumption
      simpa using h
    subst h0
    have hf4 : (4 : Int) < (f.length : Int):=of_decide_eq_true (by assumption)
    rw [if_neg (by simp),if_pos (by omega)] at hone
    skip
    exact ⟨_,byteV,hone _ rfl⟩
  · have h0 : ¬ e = 0 := by
      have h : (!decide (e = 0)) = true:=by assumption
      simpa using h
    rw [if_pos h0] at hone
    skip
    exact ⟨_,byteV,hone _ rfl⟩
end Gv
namespace Gv
variable [Glob] [Laid]
def bytesGo : Nat → List Bs → Int
  | _,[]=>0
  | n,s :: r=>if s.contains 10 = true then 4 else if (s.length : Int) > 4000 - n - 1 then 2 else bytesGo (n + s.length + 1) r
def lineBytes (l : List Bs) : Bs × Int:=if bytesGo 0 l = 0 then (put l,0) else ([],bytesGo 0 l)
theorem bytesGo_at {l : List Bs} {i : Nat} (h : bytesGo (put (l.take i)).length (l.drop i) = bytesGo 0 l) (hi : i < l.length) :
    bytesGo 0 l = if l[i].contains 10 = true then 4 else if (l[i].length : Int) > 4000 - (put (l.take i)).length - 1 then 2 else bytesGo (put (l.take (i + 1))).length (l.drop (i + 1)):=by
  rw [← h,List.drop_eq_getElem_cons hi,bytesGo,put_take_succ hi]
  simp only [List.length_append,List.length_cons,List.length_nil,Nat.add_assoc]
theorem bytes_ca : callable Tryz.prog 92 = true:=by kernel_rfl
def bytes_S : Spec:=fun args K=>∃ l : List Bs,args = [.sl strV l] ∧ (∀ s ∈ l,s.length ≤ reachBytes) ∧ K (.tup [.sl byteV (lineBytes l).1,.int .i64 (lineBytes l).2])
noncomputable def bytes_lib : List (Nat × Spec):=[(155,containsB_S)]
noncomputable def bytes_fns : List (Nat × FnI):=[]
noncomputable def bytes_prims : List (Nat × PSpec):=[]
theorem bytes_E : EnvOK ⟨Tryz.prog,tys,bytes_lib,bytes_fns,bytes_prims,[]⟩:=env_ok mixed0 tys0 (.cons containsB_ca containsB_ok .nil) .nil .nil rfl
set_option maxHeartbeats 4000000 in
theorem bytes_ok : Pure Tryz.prog 92 bytes_S:=by
  refine pure_by bytes_E 6 (fi:={fn:=Tryz.f92,hooks:=[],draws:=[]}) ⟨Tryz.func92,by kernel_rfl,by kernel_rfl⟩ ?_
  rintro _ K ⟨l,rfl,hz,hK⟩
  replace hK : ∀ r,r = .tup [.sl byteV (lineBytes l).1,.int .i64 (lineBytes l).2] → K r:=fun r h=>h ▸ hK
  refine fun (hl : _ ≤ MAXL)=>?_
  conv=>whnf
  refine loop_live [7,8] (σ:=Nat) (fun i=>[(4,.own 0),(9,.int .i64 i)]) (fun i=>[.row 1 ((put (l.take i)).map byteV)]) (fun i=>i ≤ l.length ∧ bytesGo (put (l.take i)).length (l.drop i) = bytesGo 0 l ∧ (put (l.take i)).length ≤ 4000) (fun i=>l.length - i) 0 ?_
  conv=>whnf
  refine ⟨(by (refine wk_sel [none] rfl rfl ?_ ?_ <;> (repeat' (first | exact True.intro | exact rfl | exact Or.inl rfl | exact Or.inr rfl | refine And.intro ?_ ?_ | fail)))),⟨Nat.zero_le _,rfl,by simp [put]⟩,fun i hi=>?_⟩
  obtain ⟨hi,hg,hs⟩:=hi
  repeat' first | refine ⟨_,_,_,LeL.refl _,?_⟩ | (refine fun (b : Bool) hb=>?_; cases b <;> (first | exact absurd hb (by decide) | exact Bool.noConfusion (show true = false from hb) | exact Bool.noConfusion (show false = true from hb) | skip)) | refine And.intro (a:=_ ≤ 140737488355328) ?_ ?_ | refine ⟨_,rfl,?_,rfl,?_⟩ | refine Opt.a ?_ | fail
  · refine hK _ ?_
    have e : l.take i = l:=List.take_of_length_le (by grind)
    have e2 : l.drop i = []:=List.drop_eq_nil_of_le (by grind)
    rw [e2,bytesGo] at hg
    unfold lineBytes
    rw [← hg,e]
    rfl
  · grind
  · exact Nat.le_trans (hz _ (List.getElem_mem (by grind))) (by decide)
  have hi2 : i < l.length:=by grind
  have ha:=bytesGo_at hg hi2
  have ht:=@put_take_succ l i hi2
  refine ⟨l[i],10,rfl,?_⟩
  repeat' first | (refine fun (b : Bool) hb=>?_; cases b <;> (first | exact absurd hb (by decide) | exact Bool.noConfusion (show true = false from hb) | exact Bool.noConfusion (show false = true from hb) | skip)) | (refine fun (hl : _ ≤ MAXL)=>?_) | refine And.intro (a:=I64 _) ?_ ?_ | refine And.intro (a:=_ ≤ 140737488355328) ?_ ?_ | refine ⟨rfl,?_⟩ | refine ⟨UInt8,byteV,?_⟩ | fail
  · (first | omega | (unfold I64; omega) | (simp only [List.length_append,List.length_map,List.length_cons,List.length_nil,Nat.mul_one,Int.ofNat_eq_natCast] at *; omega) | (dsimp only at *; omega) | (unfold I64; dsimp only at *; omega) | (unfold I64; grind) | grind)
  · (first | omega | (unfold I64; omega) | (simp only [List.length_append,List.length_map,List.length_cons,List.length_nil,Nat.mul_one,Int.ofNat_eq_natCast] at *; omega) | (dsimp only at *; omega) | (unfold I64; dsimp only at *; omega) | (unfold I64; grind) | grind)
  · simp only [List.length_append,List.length_map,List.length_cons,List.length_nil,Nat.mul_one] at *
    grind
  · simp only [List.length_append,List.length_map,List.length_cons,List.length_nil,Nat.mul_one] at *
    grind
  · (first | omega | (unfold I64; omega) | (simp only [List.length_append,List.length_map,List.length_cons,List.length_nil,Nat.mul_one,Int.ofNat_eq_natCast] at *; omega) | (dsimp only at *; omega) | (unfold I64; dsimp only at *; omega) | (unfold I64; grind) | grind)
  · simp only [List.length_map] at *
    have h1 : ¬ l[i].contains 10 = true:=by grind
    have h2 : ¬ (l[i].length : Int) > 4000 - (put (l.take i)).length - 1:=by grind
    rw [if_neg h1,if_neg h2] at ha
    refine ⟨i + 1,?_,⟨by omega,ha.symm,?_⟩,by omega⟩
    · refine wk_sel [some 3] rfl rfl ⟨?_,trivial⟩ ?_
      · rw [ht,List.map_append,List.map_append,← List.append_assoc]
        exact rfl
      · (repeat' (first | exact True.intro | exact rfl | exact Or.inl rfl | exact Or.inr rfl | refine And.intro ?_ ?_ | fail))
    · rw [ht]
      simp only [List.length_append,List.length_cons,List.length_nil]
      omega
  · simp only [List.length_map] at *
    refine hK _ ?_
    have h1 : ¬ l[i].contains 10 = true:=by grind
    have h2 : (l[i].length : Int) > 4000 - (put (l.take i)).length - 1:=by grind
    rw [if_neg h1,if_pos h2] at ha
    unfold lineBytes
    rw [ha]
    rfl
  · refine hK _ ?_
    have h1 : l[i].contains 10 = true:=by assumption
    rw [if_pos h1] at ha
    unfold lineBytes
    rw [ha]
    rfl
end Gv
namespace Gv
variable [Glob] [Laid] [Nums]
def shellLine (l : List FileS) (x : LineS) : Bs × Int:=if checkLine x ≠ 0 then ([],checkLine x) else if (gatherS l x.frm).2 ≠ 0 then ([],(gatherS l x.frm).2) else lineBytes (doLines x.cmds (linesOf (gatherS l x.frm).1))
theorem checkLine_ok {x : LineS} (h : checkLine x = 0) : x.cmds.length ≤ 6 ∧ ∀ c ∈ x.cmds,checkCmd c = 0:=by
  unfold checkLine at h
  split at h
  · cases h
  · split at h
    · cases h
    · rename_i h1 h2
      exact ⟨by omega,firstBad_at h⟩
theorem lineF_ca : callable Tryz.prog 38 = true:=by kernel_rfl
def lineF_S : Spec:=fun args K=>∃ (l : List FileS) (f : List Bs) (c : List Cmd) (t : Bs),args = [.sl fileV l,.agg [.sl strV f,.sl cmdV c,.str t]] ∧ K (.tup [.sl byteV (shellLine l ⟨f,c,t⟩).1,.int .i64 (shellLine l ⟨f,c,t⟩).2])
noncomputable def lineF_lib : List (Nat × Spec):=[(68,cline_S),(39,gather_S),(90,linesL_S),(91,linesC_S),(92,bytes_S)]
noncomputable def lineF_fns : List (Nat × FnI):=[]
noncomputable def lineF_prims : List (Nat × PSpec):=[]
theorem lineF_E : EnvOK ⟨Tryz.prog,tys,lineF_lib,lineF_fns,lineF_prims,[]⟩:=env_ok mixed0 tys0 (.cons cline_ca cline_ok (.cons gather_ca gather_ok (.cons linesL_ca linesL_ok (.cons linesC_ca linesC_ok (.cons bytes_ca bytes_ok .nil))))) .nil .nil rfl
set_option maxHeartbeats 8000000 in
theorem lineF_ok : Pure Tryz.prog 38 lineF_S:=by
  refine pure_by lineF_E 6 (fi:={fn:=Tryz.f38,hooks:=[],draws:=[]}) ⟨Tryz.func38,by kernel_rfl,by kernel_rfl⟩ ?_
  rintro _ K ⟨l,f,c,t,rfl,hK⟩
  replace hK : ∀ r,r = .tup [.sl byteV (shellLine l ⟨f,c,t⟩).1,.int .i64 (shellLine l ⟨f,c,t⟩).2] → K r:=fun r h=>h ▸ hK
  have hone : ∀ r : Bs × Int,shellLine l ⟨f,c,t⟩ = r → K (.tup [.sl byteV r.1,.int .i64 r.2]):=fun r h=>hK _ (by rw [h])
  unfold shellLine at hone
  dsimp only at hone
  refine ⟨f,c,t,rfl,?_⟩
  obtain ⟨e,he⟩ : ∃ e,checkLine ⟨f,c,t⟩ = e:=⟨_,rfl⟩
  rw [he] at hone ⊢
  repeat' first | (refine fun (b : Bool) hb=>?_; cases b <;> (first | exact absurd hb (by decide) | exact Bool.noConfusion (show true = false from hb) | exact Bool.noConfusion (show false = true from hb) | skip)) | fail
  rotate_left
  · have h0 : ¬ e = 0 := by
      have h : (!decide (e = 0)) = true:=by assumption
      simpa using h
    rw [if_pos h0] at hone
    skip
    exact ⟨_,byteV,hone _ rfl⟩
  have h0 : e = 0:=by
    have h : (!decide (e = 0)) = false:=by assumption
    simpa using h
  subst h0
  rw [if_neg (by simp)] at hone
  obtain ⟨hc6,hcc⟩:=checkLine_ok he
  dsimp only at hc6 hcc
  refine ⟨l,f,rfl,?_⟩
  have hgl:=gatherS_len l f
  obtain ⟨g,hg⟩ : ∃ g,gatherS l f = g:=⟨_,rfl⟩
  rw [hg] at hone hgl ⊢
  obtain ⟨b,e⟩:=g
  dsimp only at hone hgl
  repeat' first | (refine fun (b : Bool) hb=>?_; cases b <;> (first | exact absurd hb (by decide) | exact Bool.noConfusion (show true = false from hb) | exact Bool.noConfusion (show false = true from hb) | skip)) | fail
  rotate_left
  · have h0 : ¬ e = 0 := by
      have h : (!decide (e = 0)) = true:=by assumption
      simpa using h
    rw [if_pos h0] at hone
    skip
    exact ⟨_,byteV,hone _ rfl⟩
  have h0 : e = 0:=by
    have h : (!decide (e = 0)) = false:=by assumption
    simpa using h
  subst h0
  rw [if_neg (by simp)] at hone
  refine ⟨b,rfl,by omega,?_⟩
  have hpb:=put_lines b
  have hdp:=doLines_put hcc (s:=linesOf b) (by omega) (by omega)
  repeat' first | (refine fun (hl : _ ≤ MAXL)=>?_) | fail
  conv=>whnf
  refine loop_live [30,31] (σ:=Nat × List Bs) (fun s=>[(32,.int .i64 s.1),(9,.sl strV s.2)]) (fun s=>[.box [.sl strV f,.sl cmdV c,.str t]]) (fun s=>s.1 ≤ c.length ∧ s.2 = doLines (c.take s.1) (linesOf b)) (fun s=>c.length - s.1) (0,linesOf b) ?_
  conv=>whnf
  refine ⟨(by (refine wk_auto ?_; refine Sel4.mk rfl rfl ?_ ?_ <;> (repeat' (first | exact True.intro | exact rfl | exact Or.inl rfl | exact Or.inr rfl | refine And.intro ?_ ?_ | fail)))),⟨Nat.zero_le _,rfl⟩,fun s hs=>?_⟩
  obtain ⟨i,s⟩:=s
  obtain ⟨hi,hs⟩:=hs
  dsimp only at hi hs
  have hsp : (put s).length ≤ 5000:=by
    have:=hdp i hi
    rw [hs]; omega
  have hsl:=put_len (l:=s) (n:=5000) hsp
  repeat' first | (refine fun (b : Bool) hb=>?_; cases b <;> (first | exact absurd hb (by decide) | exact Bool.noConfusion (show true = false from hb) | exact Bool.noConfusion (show false = true from hb) | skip)) | refine ⟨_,rfl,?_,rfl,?_⟩ | fail
  · have hge : ¬ (i : Int) < (c.length : Int):=of_decide_eq_false (by assumption)
    have ei : c.take i = c:=List.take_of_length_le (by omega)
    rw [ei] at hs
    skip
    refine ⟨s,rfl,fun x hx=>by have:=put_el hx; unfold reachBytes; omega,?_⟩
    skip
    exact hone _ (by rw [hs])
  · have h:=of_decide_eq_true (by assumption : decide ((i : Int) < (c.length : Int)) = true)
    show i < c.length
    omega
  have hlt : i < c.length:=by
    have h:=of_decide_eq_true (by assumption : decide ((i : Int) < (c.length : Int)) = true)
    omega
  conv=>whnf
  refine ⟨c[i],s,rfl,⟨hcc _ (List.getElem_mem hlt),by omega,fun x hx=>by have:=put_el hx; omega⟩,?_⟩
  repeat' first | refine And.intro (a:=I64 _) ?_ ?_ | fail
  · unfold I64
    dsimp only
    omega
  refine ⟨(i + 1,linesC c[i] s),(by (refine wk_auto ?_; refine Sel4.mk rfl rfl ?_ ?_ <;> (repeat' (first | exact True.intro | exact rfl | exact Or.inl rfl | exact Or.inr rfl | refine And.intro ?_ ?_ | fail)))),⟨hlt,?_⟩,by show c.length - (i + 1) < c.length - i; omega⟩
  show linesC c[i] s = _
  rw [doLines_take hlt,hs]
end Gv
namespace Gv
variable [Glob] [Laid]
theorem atI_ca : callable Tryz.prog 26 = true:=by kernel_rfl
def atI_S : Spec:=fun args K=>∃ (k n : Int),args = [.int .i64 k,.int .i64 n] ∧ (I64 k ∧ 1 ≤ n ∧ n ≤ 1000000) ∧ K (.int .i64 (k % n))
noncomputable def atI_lib : List (Nat × Spec):=[]
noncomputable def atI_fns : List (Nat × FnI):=[]
noncomputable def atI_prims : List (Nat × PSpec):=[]
theorem atI_E : EnvOK ⟨Tryz.prog,tys,atI_lib,atI_fns,atI_prims,[]⟩:=env_ok mixed0 tys0 .nil .nil .nil rfl
set_option maxHeartbeats 4000000 in
theorem atI_ok : Pure Tryz.prog 26 atI_S:=by
  refine pure_by atI_E 6 (fi:={fn:=Tryz.f26,hooks:=[],draws:=[]}) ⟨Tryz.func26,by kernel_rfl,by kernel_rfl⟩ ?_
  rintro _ K ⟨k,n,rfl,⟨hk,h1,h2⟩,hK⟩
  replace hK : ∀ r,r = .int .i64 (k % n) → K r:=fun r h=>h ▸ hK
  have h3:=at_eq k n h1
  have h4:=Int.emod_lt_of_pos k (show 0 < n by omega)
  have h5:=Int.emod_nonneg k (show n ≠ 0 by omega)
  refine ⟨by omega,?_⟩
  repeat' first | (refine fun (b : Bool) hb=>?_; cases b <;> (first | exact absurd hb (by decide) | exact Bool.noConfusion (show true = false from hb) | exact Bool.noConfusion (show false = true from hb) | skip)) | refine And.intro (a:=I64 _) ?_ ?_ | fail
  · have h : ¬ k.tmod n < 0:=of_decide_eq_false (by assumption)
    rw [if_neg h] at h3
    rw [h3]
    exact hK _ rfl
  · have h : k.tmod n < 0:=of_decide_eq_true (by assumption)
    rw [if_pos h] at h3
    rw [h3]
    (first | omega | (unfold I64; omega) | (simp only [List.length_append,List.length_map,List.length_cons,List.length_nil,Nat.mul_one,Int.ofNat_eq_natCast] at *; omega) | (dsimp only at *; omega) | (unfold I64; dsimp only at *; omega) | (unfold I64; grind) | grind)
  · have h : k.tmod n < 0:=of_decide_eq_true (by assumption)
    rw [if_pos h] at h3
    conv=>whnf
    rw [h3]
    exact hK _ rfl
end Gv
namespace Gv
variable [Glob] [Laid]
theorem equalB_ca : callable Tryz.prog 18 = true:=by kernel_rfl
def equalB_S : Spec:=fun args K=>∃ a b : List UInt8,args = [.sl byteV a,.sl byteV b] ∧ K (.bool (decide (a = b)))
noncomputable def equalB_lib : List (Nat × Spec):=[]
noncomputable def equalB_fns : List (Nat × FnI):=[]
noncomputable def equalB_prims : List (Nat × PSpec):=[]
theorem equalB_E : EnvOK ⟨Tryz.prog,tys,equalB_lib,equalB_fns,equalB_prims,[]⟩:=env_ok mixed0 tys0 .nil .nil .nil rfl
set_option maxHeartbeats 4000000 in
theorem equalB_ok : Pure Tryz.prog 18 equalB_S:=by
  refine pure_by equalB_E 6 (fi:={fn:=Tryz.f18,hooks:=[],draws:=[(6,[0,0,3,7,0,0,48,112,255])]}) ⟨Tryz.func18,by kernel_rfl,by kernel_rfl⟩ ?_
  rintro _ K ⟨x,y,rfl,hK⟩
  replace hK : ∀ r,r = .bool (decide (x = y)) → K r:=fun r h=>h ▸ hK
  repeat' first | (refine fun (b : Bool) hb=>?_; cases b <;> (first | exact absurd hb (by decide) | exact Bool.noConfusion (show true = false from hb) | exact Bool.noConfusion (show false = true from hb) | skip)) | (refine fun (hl : _ ≤ MAXL)=>?_) | fail
  rotate_left
  · refine hK _ ?_
    congr 1
    grind
  conv=>whnf
  refine loop_intro (σ:=Nat) (fun i=>[(0,.sl byteV x),(1,.sl byteV y),(12,.int .i64 x.length),(13,.int .i64 i),(4,.lit false)]) (fun _=>[]) (fun i=>i ≤ x.length ∧ x.take i = y.take i) (fun i=>x.length - i) 0 (wk_sel [] rfl rfl trivial ?_) ⟨Nat.zero_le _,rfl⟩ ?_
  · (repeat' (first | exact True.intro | exact rfl | exact Or.inl rfl | exact Or.inr rfl | refine And.intro ?_ ?_ | fail))
  intro i ⟨hi,hI⟩
  repeat' first | (refine fun (b : Bool) hb=>?_; cases b <;> (first | exact absurd hb (by decide) | exact Bool.noConfusion (show true = false from hb) | exact Bool.noConfusion (show false = true from hb) | skip)) | refine And.intro (a:=I64 _) ?_ ?_ | refine ⟨_,⟨rfl,rfl⟩,?_⟩ | refine ⟨_,⟨_,rfl,?_,rfl,rfl,rfl⟩,?_⟩ | fail
  · refine hK _ ?_
    congr 1
    have e : x = y:=by
      have h1 : x.take i = x:=List.take_of_length_le (by grind)
      have h2 : y.take i = y:=List.take_of_length_le (by grind)
      rw [← h1,← h2,hI]
    simp [e]
  · grind
  · grind
  · unfold I64; grind
  · refine ⟨i + 1,?_,⟨?_,?_⟩,?_⟩
    · refine wk_sel [] rfl rfl trivial ?_
      (repeat' (first | exact True.intro | exact rfl | exact Or.inl rfl | exact Or.inr rfl | refine And.intro ?_ ?_ | fail))
    · grind
    · have g1 : i < x.length:=by grind
      have g2 : i < y.length:=by grind
      rw [List.take_succ_eq_append_getElem g1,List.take_succ_eq_append_getElem g2,hI]
      have e : x[i].toNat = y[i].toNat:=by grind
      rw [UInt8.toNat_inj.1 e]
    · grind
  · refine hK _ ?_
    congr 1
    grind
end Gv
namespace Gv
variable [Glob] [Laid] [Nums] [Errs]
theorem runX_ca : callable Tryz.prog 20 = true:=by kernel_rfl
def runX_S : Spec:=fun args K=>∃ (m : MachS) (l : List Int) (I : MachS → Prop),args = [machV m,.sl intV l] ∧ (checkMach m = 0 → copyZ m ∧ I m ∧ Steps I) ∧ K (.tup [machV (runP m l).1,.sl intV (runP m l).2.1,.int .i64 (runP m l).2.2])
noncomputable def runX_lib : List (Nat × Spec):=[(41,checkMX_S)]
noncomputable def runX_fns : List (Nat × FnI):=[(54,{ fn:=Tryz.f54,spec:=some copyG_P }),(55,{ fn:=Tryz.f55,spec:=some stepH_P })]
noncomputable def runX_prims : List (Nat × PSpec):=[]
theorem runX_E : EnvOK ⟨Tryz.prog,tys,runX_lib,runX_fns,runX_prims,[]⟩:=env_ok mixed0 tys0 (.cons checkMX_ca checkMX_ok .nil) (.told copyG_ca rfl copyG_prim (.told stepH_ca rfl stepH_prim .nil)) .nil rfl
set_option maxHeartbeats 16000000 in
theorem runX_ok : Pure Tryz.prog 20 runX_S:=by
  refine pure_by runX_E 6 (fi:={fn:=Tryz.f20,hooks:=[14,16],draws:=[]}) ⟨Tryz.func20,by kernel_rfl,by kernel_rfl⟩ ?_
  rintro _ K ⟨m,l,I,rfl,hI,hK⟩
  replace hK : ∀ r,r = .tup [machV (runP m l).1,.sl intV (runP m l).2.1,.int .i64 (runP m l).2.2] → K r:=fun r h=>h ▸ hK
  skip
  refine ⟨m,rfl,?_⟩
  repeat' first | (refine fun (b : Bool) hb=>?_; cases b <;> (first | exact absurd hb (by decide) | exact Bool.noConfusion (show true = false from hb) | exact Bool.noConfusion (show false = true from hb) | skip)) | (refine fun (hl : _ ≤ MAXL)=>?_) | fail
  rotate_left
  · have h0 : checkMach m = 0:=by simpa using ‹(!decide (checkMach m = 0)) = false›
    have hl : 40000 < l.length:=by
      have h:=of_decide_eq_true (by assumption : decide (40000 < (l.length : Int)) = true)
      omega
    conv=>whnf
    skip
    refine ⟨Gp.Node,nodeV,?_⟩
    refine ⟨FileS,fileV,?_⟩
    refine ⟨PipeS,pipeV,?_⟩
    refine ⟨ProcS,procV,?_⟩
    refine ⟨UInt8,byteV,?_⟩
    refine ⟨Int,intV,?_⟩
    refine hK _ ?_
    unfold runP
    rw [if_neg (by rw [h0]; decide),if_pos hl]
    rfl
  · have h0 : checkMach m ≠ 0:=by simpa using ‹(!decide (checkMach m = 0)) = true›
    conv=>whnf
    skip
    refine ⟨Gp.Node,nodeV,?_⟩
    refine ⟨FileS,fileV,?_⟩
    refine ⟨PipeS,pipeV,?_⟩
    refine ⟨ProcS,procV,?_⟩
    refine ⟨UInt8,byteV,?_⟩
    refine ⟨Int,intV,?_⟩
    refine hK _ ?_
    unfold runP
    rw [if_pos h0]
    rfl
  have h0 : checkMach m = 0:=by simpa using ‹(!decide (checkMach m = 0)) = false›
  have hl : ¬ 40000 < l.length:=by
    have h:=of_decide_eq_false (by assumption : decide (40000 < (l.length : Int)) = false)
    omega
  obtain ⟨hz,hIm,hS⟩:=hI h0
  conv=>whnf
  skip
  refine ⟨m,rfl,hz,fun Q=>?_⟩
  conv=>whnf
  skip
  conv=>whnf
  skip
  refine join_live [2,4] (σ:=Unit) (fun _=>[(8,.own 5)]) (fun _=>[.box [.sl nodeV (runGo l m []).1.g,.sl fileV (runGo l m []).1.f,.own 2,.own 3,.sl byteV (runGo l m []).1.sunk],.box [.nil,.nil,.nil,.nil,.nil],.row 4 ((runGo l m []).1.pipes.map pipeV),.row 5 ((runGo l m []).1.p.map procV),.dead,.row 1 ((runGo l m []).2.map intV)]) (fun _=>True) ?_
  conv=>whnf
  refine ⟨?_,fun _ _=>?_⟩
  · conv=>whnf
    repeat' first | (refine fun (hl : _ ≤ MAXL)=>?_) | fail
    conv=>whnf
    refine loop_live [2,4,24,25] (σ:=Nat × MachS × List Int) (fun s=>[(26,.int .i64 s.1),(8,.own 5)]) (fun s=>[.box [.sl nodeV s.2.1.g,.sl fileV s.2.1.f,.own 2,.own 3,.sl byteV s.2.1.sunk],.box [.nil,.nil,.nil,.nil,.nil],.row 4 (s.2.1.pipes.map pipeV),.row 5 (procEls Q s.2.1.p),.pack Q (subsOf s.2.1.p),.row 1 (s.2.2.map intV)]) (fun s=>s.1 ≤ l.length ∧ runGo (l.take s.1) m [] = s.2 ∧ I s.2.1) (fun s=>l.length - s.1) (0,m,[]) ?_
    conv=>whnf
    refine ⟨(by (refine wk_sel [some 0,some 1,some 2,some 3,some 4,none] rfl rfl ?_ ?_ <;> (repeat' (first | exact True.intro | exact rfl | exact Or.inl rfl | exact Or.inr rfl | refine And.intro ?_ ?_ | fail)))),⟨Nat.zero_le _,rfl,hIm⟩,fun s hs=>?_⟩
    obtain ⟨k,M,sd⟩:=s
    obtain ⟨hk,hgo,hIM⟩:=hs
    dsimp only at hk hgo hIM
    repeat' first | (refine fun (b : Bool) hb=>?_; cases b <;> (first | exact absurd hb (by decide) | exact Bool.noConfusion (show true = false from hb) | exact Bool.noConfusion (show false = true from hb) | skip)) | refine ⟨_,rfl,?_,rfl,?_⟩ | fail
    · have hkl : k = l.length := by
        have h:=of_decide_eq_false (by assumption : decide ((k : Int) < (l.length : Int)) = false)
        omega
      subst hkl
      rw [List.take_length] at hgo
      refine ⟨(),?_,trivial⟩
      rw [hgo]
      exact (wk_pack 3 4 rfl rfl).trans (by (refine wk_sel [some 0,some 1,some 2,some 3,some 4,some 5] rfl rfl ?_ ?_ <;> (repeat' (first | exact True.intro | exact rfl | exact Or.inl rfl | exact Or.inr rfl | refine And.intro ?_ ?_ | fail))))
    · have h:=of_decide_eq_true (by assumption : decide ((k : Int) < (l.length : Int)) = true)
      omega
    have hk2 : k < l.length:=by
      have h:=of_decide_eq_true (by assumption : decide ((k : Int) < (l.length : Int)) = true)
      omega
    have hnx : runGo (l.take (k + 1)) m [] = ((pickM M l[k]).1,sd ++ [(pickM M l[k]).2]):=by
      rw [List.take_succ_eq_append_getElem hk2,runGo_snoc,hgo]
    conv=>whnf
    refine join_live [2,4,8,24,25,26] (σ:=Unit) (fun _=>[(11,.int .i64 (pickM M l[k]).2)]) (fun _=>[.box [.sl nodeV (pickM M l[k]).1.g,.sl fileV (pickM M l[k]).1.f,.own 2,.own 3,.sl byteV (pickM M l[k]).1.sunk],.box [.nil,.nil,.nil,.nil,.nil],.row 4 ((pickM M l[k]).1.pipes.map pipeV),.row 5 (procEls Q (pickM M l[k]).1.p),.pack Q (subsOf (pickM M l[k]).1.p),.row 1 (sd.map intV)]) (fun _=>True) ?_
    conv=>whnf
    refine ⟨?_,fun _ _=>?_⟩
    · have hout : ¬ (0 ≤ l[k] ∧ l[k] < (M.p.length : Int)) → pickM M l[k] = (M,5):=fun h=>by unfold pickM; rw [if_neg h]
      conv=>whnf
      repeat' first | (refine fun (b : Bool) hb=>?_; cases b <;> (first | exact absurd hb (by decide) | exact Bool.noConfusion (show true = false from hb) | exact Bool.noConfusion (show false = true from hb) | skip)) | (refine fun (hl : _ ≤ MAXL)=>?_) | fail
      · have hp:=hout (fun h=>of_decide_eq_false (by assumption : decide (0 ≤ l[k]) = false) h.1)
        conv=>whnf
        skip
        rw [hp]
        exact ⟨(),(by (refine wk_sel [some 0,some 1,some 2,some 3,some 4,some 5] rfl rfl ?_ ?_ <;> (repeat' (first | exact True.intro | exact rfl | exact Or.inl rfl | exact Or.inr rfl | refine And.intro ?_ ?_ | fail)))),trivial⟩
      · have hp := hout (fun h => by
          have h2:=of_decide_eq_false (by assumption : decide (l[k] < ((procEls Q M.p).length : Int)) = false)
          rw [procEls_len] at h2
          exact h2 h.2)
        conv=>whnf
        skip
        rw [hp]
        exact ⟨(),(by (refine wk_sel [some 0,some 1,some 2,some 3,some 4,some 5] rfl rfl ?_ ?_ <;> (repeat' (first | exact True.intro | exact rfl | exact Or.inl rfl | exact Or.inr rfl | refine And.intro ?_ ?_ | fail)))),trivial⟩
      · have h1:=of_decide_eq_true (by assumption : decide (0 ≤ l[k]) = true)
        have h2:=of_decide_eq_true (by assumption : decide (l[k] < ((procEls Q M.p).length : Int)) = true)
        rw [procEls_len] at h2
        obtain ⟨i,hi⟩ : ∃ i : Nat,l[k] = i:=⟨l[k].toNat,by omega⟩
        have hiM : i < M.p.length:=by omega
        have hp : pickM M l[k] = stepM M i:=by
          unfold pickM
          rw [if_pos ⟨h1,h2⟩,hi]
          rfl
        obtain ⟨hF,hZ,-⟩:=hS M hIM i hiM
        conv=>whnf
        skip
        refine ⟨M,i,0,2,3,4,Q,?_,rfl,rfl,rfl,rfl,hF,hZ,?_⟩
        · show [V.ptr 0 0 0,V.int .i64 l[k]] = _
          rw [hi]
        conv=>whnf
        skip
        rw [hp]
        exact ⟨(),(by (refine wk_sel [some 0,some 1,some 2,some 3,some 4,some 5] rfl rfl ?_ ?_ <;> (repeat' (first | exact True.intro | exact rfl | exact Or.inl rfl | exact Or.inr rfl | refine And.intro ?_ ?_ | fail)))),trivial⟩
    have hIn : I (pickM M l[k]).1:=by
      unfold pickM
      split
      · rename_i h
        exact (hS M hIM _ (by omega)).2.2
      · exact hIM
    have hsl : sd.length = k:=by
      have:=runGo_len (l.take k) m []
      rw [hgo,List.length_take] at this
      simp at this
      omega
    conv=>whnf
    repeat' first | refine And.intro (a:=I64 _) ?_ ?_ | refine And.intro (a:=_ ≤ 140737488355328) ?_ ?_ | refine ⟨rfl,?_⟩ | fail
    · show ((sd.map intV).length + 1) * 8 ≤ 140737488355328
      rw [List.length_map]
      omega
    · show I64 ((k : Int) + 1)
      unfold I64; omega
    refine ⟨(k + 1,(pickM M l[k]).1,sd ++ [(pickM M l[k]).2]),?_,⟨hk2,hnx,hIn⟩,by show l.length - (k + 1) < l.length - k; omega⟩
    show Wk _ _ _ _ [.box [.sl nodeV (pickM M l[k]).1.g,.sl fileV (pickM M l[k]).1.f,.own 2,.own 3,.sl byteV (pickM M l[k]).1.sunk],.box [.nil,.nil,.nil,.nil,.nil],.row 4 ((pickM M l[k]).1.pipes.map pipeV),.row 5 (procEls Q (pickM M l[k]).1.p),.pack Q (subsOf (pickM M l[k]).1.p),.row 1 ((sd ++ [(pickM M l[k]).2]).map intV)]
    rw [List.map_append]
    exact (by (refine wk_sel [some 0,some 1,some 2,some 3,some 4,some 7] rfl rfl ?_ ?_ <;> (repeat' (first | exact True.intro | exact rfl | exact Or.inl rfl | exact Or.inr rfl | refine And.intro ?_ ?_ | fail))))
  conv=>whnf
  repeat' first | refine ⟨_,_,_,LeL.refl _,?_⟩ | fail
  conv=>whnf
  refine hK _ ?_
  unfold runP
  rw [if_neg (by rw [h0]; decide),if_neg hl]
  rfl
end Gv
namespace Gv
variable [Glob] [Laid]
theorem equalP_ca : callable Tryz.prog 57 = true:=by kernel_rfl
def equalP_S : Spec:=fun args K=>∃ a b : List Port,args = [.sl portV a,.sl portV b] ∧ K (.bool (decide (a = b)))
noncomputable def equalP_lib : List (Nat × Spec):=[]
noncomputable def equalP_fns : List (Nat × FnI):=[]
noncomputable def equalP_prims : List (Nat × PSpec):=[]
theorem equalP_E : EnvOK ⟨Tryz.prog,tys,equalP_lib,equalP_fns,equalP_prims,[(47,[true,true])]⟩:=env_ok mixed0 tys0 .nil .nil .nil (by kernel_rfl)
set_option maxHeartbeats 4000000 in
theorem equalP_ok : Pure Tryz.prog 57 equalP_S:=by
  refine pure_by equalP_E 6 (fi:={fn:=Tryz.f57,hooks:=[],draws:=[(6,[0,0,3,7,0,0,48,112,255])]}) ⟨Tryz.func57,by kernel_rfl,by kernel_rfl⟩ ?_
  rintro _ K ⟨x,y,rfl,hK⟩
  replace hK : ∀ r,r = .bool (decide (x = y)) → K r:=fun r h=>h ▸ hK
  repeat' first | (refine fun (b : Bool) hb=>?_; cases b <;> (first | exact absurd hb (by decide) | exact Bool.noConfusion (show true = false from hb) | exact Bool.noConfusion (show false = true from hb) | skip)) | (refine fun (hl : _ ≤ MAXL)=>?_) | fail
  rotate_left
  · refine hK _ ?_
    congr 1
    grind
  conv=>whnf
  refine loop_live [0,1,12] (σ:=Nat) (fun i=>[(13,.int .i64 i)]) (fun _=>[]) (fun i=>i ≤ x.length ∧ x.take i = y.take i) (fun i=>x.length - i) 0 ?_
  conv=>whnf
  refine ⟨wk_sel [] rfl rfl trivial (by (repeat' (first | exact True.intro | exact rfl | exact Or.inl rfl | exact Or.inr rfl | refine And.intro ?_ ?_ | fail))),⟨Nat.zero_le _,rfl⟩,?_⟩
  intro i ⟨hi,hI⟩
  repeat' first | (refine fun (b : Bool) hb=>?_; cases b <;> (first | exact absurd hb (by decide) | exact Bool.noConfusion (show true = false from hb) | exact Bool.noConfusion (show false = true from hb) | skip)) | refine And.intro (a:=I64 _) ?_ ?_ | refine ⟨_,⟨rfl,rfl⟩,?_⟩ | refine ⟨_,⟨_,rfl,?_,rfl,rfl,rfl⟩,?_⟩ | fail
  all_goals try ((first | omega | (unfold I64; omega) | (simp only [List.length_append,List.length_map,List.length_cons,List.length_nil,Nat.mul_one,Int.ofNat_eq_natCast] at *; omega) | (dsimp only at *; omega) | (unfold I64; dsimp only at *; omega) | (unfold I64; grind) | grind); done)
  · refine hK _ ?_
    congr 1
    have e : x = y:=by
      have h1 : x.take i = x:=List.take_of_length_le (by grind)
      have h2 : y.take i = y:=List.take_of_length_le (by grind)
      rw [← h1,← h2,hI]
    simp [e]
  · have g1 : i < x.length:=by grind
    have g2 : i < y.length:=by grind
    refine ⟨i + 1,?_,⟨?_,?_⟩,?_⟩
    · refine wk_sel [] rfl rfl trivial ?_
      (repeat' (first | exact True.intro | exact rfl | exact Or.inl rfl | exact Or.inr rfl | refine And.intro ?_ ?_ | fail))
    · grind
    · rw [List.take_succ_eq_append_getElem g1,List.take_succ_eq_append_getElem g2,hI]
      have e : x[i] = y[i]:=by
        have h1 : x[i].node = y[i].node ∧ x[i].out = y[i].out:=by grind
        rcases hx : x[i] with ⟨a,b⟩
        rcases hy : y[i] with ⟨a',b'⟩
        rw [hx,hy] at h1
        simp only at h1
        rw [h1.1,h1.2]
      rw [e]
    · grind
  · refine hK _ ?_
    congr 1
    grind
end Gv
namespace Gv
variable [Glob] [Laid]
theorem sameGR_ca : callable Tryz.prog 14 = true:=by kernel_rfl
def sameGR_S : Spec:=fun args K=>∃ a b : List Gp.Node,args = [.agg [.sl nodeV a],.agg [.sl nodeV b]] ∧ K (.bool (decide (a = b)))
noncomputable def sameGR_lib : List (Nat × Spec):=[(57,equalP_S)]
noncomputable def sameGR_fns : List (Nat × FnI):=[]
noncomputable def sameGR_prims : List (Nat × PSpec):=[]
theorem sameGR_E : EnvOK ⟨Tryz.prog,tys,sameGR_lib,sameGR_fns,sameGR_prims,[(38,[true,false,true])]⟩:=env_ok mixed0 tys0 (.cons equalP_ca equalP_ok .nil) .nil .nil (by kernel_rfl)
set_option maxHeartbeats 4000000 in
theorem sameGR_ok : Pure Tryz.prog 14 sameGR_S:=by
  refine pure_by sameGR_E 6 (fi:={fn:=Tryz.f14,hooks:=[],draws:=[]}) ⟨Tryz.func14,by kernel_rfl,by kernel_rfl⟩ ?_
  rintro _ K ⟨a,b,rfl,hK⟩
  replace hK : ∀ r,r = .bool (decide (a = b)) → K r:=fun r h=>h ▸ hK
  repeat' first | (refine fun (b : Bool) hb=>?_; cases b <;> (first | exact absurd hb (by decide) | exact Bool.noConfusion (show true = false from hb) | exact Bool.noConfusion (show false = true from hb) | skip)) | (refine fun (hl : _ ≤ MAXL)=>?_) | fail
  rotate_left
  · refine hK _ ?_
    congr 1
    grind
  conv=>whnf
  refine loop_live [3,16,17] (σ:=Nat) (fun i=>[(18,.int .i64 i)]) (fun _=>[.box [.sl nodeV a],.box [.sl nodeV b]]) (fun i=>i ≤ a.length ∧ a.take i = b.take i) (fun i=>a.length - i) 0 ?_
  conv=>whnf
  refine ⟨(by (refine wk_auto ?_; refine Sel4.mk rfl rfl ?_ ?_ <;> (repeat' (first | exact True.intro | exact rfl | exact Or.inl rfl | exact Or.inr rfl | refine And.intro ?_ ?_ | fail)))),⟨Nat.zero_le _,rfl⟩,fun i hi=>?_⟩
  obtain ⟨hi,hI⟩:=hi
  repeat' first | (refine fun (b : Bool) hb=>?_; cases b <;> (first | exact absurd hb (by decide) | exact Bool.noConfusion (show true = false from hb) | exact Bool.noConfusion (show false = true from hb) | skip)) | refine ⟨_,rfl,?_,rfl,?_⟩ | fail
  · refine hK _ ?_
    congr 1
    have e : a = b:=by
      have h1 : a.take i = a:=List.take_of_length_le (by grind)
      have h2 : b.take i = b:=List.take_of_length_le (by grind)
      rw [← h1,← h2,hI]
    simp [e]
  · grind
  · grind
  · have g1 : i < a.length:=by grind
    have g2 : i < b.length:=by grind
    refine ⟨a[i].ins,b[i].ins,rfl,?_⟩
    repeat' first | (refine fun (b : Bool) hb=>?_; cases b <;> (first | exact absurd hb (by decide) | exact Bool.noConfusion (show true = false from hb) | exact Bool.noConfusion (show false = true from hb) | skip)) | refine And.intro (a:=I64 _) ?_ ?_ | fail
    · (first | omega | (unfold I64; omega) | (simp only [List.length_append,List.length_map,List.length_cons,List.length_nil,Nat.mul_one,Int.ofNat_eq_natCast] at *; omega) | (dsimp only at *; omega) | (unfold I64; dsimp only at *; omega) | (unfold I64; grind) | grind)
    · refine ⟨i + 1,(by (refine wk_auto ?_; refine Sel4.mk rfl rfl ?_ ?_ <;> (repeat' (first | exact True.intro | exact rfl | exact Or.inl rfl | exact Or.inr rfl | refine And.intro ?_ ?_ | fail)))),⟨by omega,?_⟩,by omega⟩
      rw [List.take_succ_eq_append_getElem g1,List.take_succ_eq_append_getElem g2,hI]
      have e : a[i] = b[i]:=by
        rcases hx : a[i] with ⟨k,f,c,h,w,p⟩
        rcases hy : b[i] with ⟨k',f',c',h',w',p'⟩
        rcases c with ⟨c1,c2,c3⟩
        rcases c' with ⟨d1,d2,d3⟩
        simp_all
      rw [e]
    · refine hK _ ?_
      congr 1
      have : ¬ a = b:=fun e=>by
        subst e
        simp at *
      simp [this]
  all_goals
    refine hK _ ?_
    congr 1
    have : ¬ a = b:=fun e=>by
      subst e
      simp at *
    simp [this]
end Gv
namespace Gv
variable [Glob] [Laid]
theorem files_eq {a b : FileS} (h1 : a.name = b.name) (h2 : a.b = b.b) : a = b:=by
  cases a; cases b; simp only at h1 h2; subst h1; subst h2; rfl
theorem sameF_ca : callable Tryz.prog 15 = true:=by kernel_rfl
def sameF_S : Spec:=fun args K=>∃ a b : List FileS,args = [.sl fileV a,.sl fileV b] ∧ K (.bool (decide (a = b)))
noncomputable def sameF_lib : List (Nat × Spec):=[(18,equalB_S)]
noncomputable def sameF_fns : List (Nat × FnI):=[(58,{fn:=Tryz.f58,hooks:=[],draws:=[]}),(59,{fn:=Tryz.f59,hooks:=[],draws:=[]})]
noncomputable def sameF_prims : List (Nat × PSpec):=[]
theorem sameF_E : EnvOK ⟨Tryz.prog,tys,sameF_lib,sameF_fns,sameF_prims,[]⟩:=env_ok mixed0 tys0 (.cons equalB_ca equalB_ok .nil) (.cons (by kernel_rfl) ⟨Tryz.func58,by kernel_rfl,by kernel_rfl⟩ (.cons (by kernel_rfl) ⟨Tryz.func59,by kernel_rfl,by kernel_rfl⟩ .nil)) .nil rfl
set_option maxHeartbeats 4000000 in
theorem sameF_ok : Pure Tryz.prog 15 sameF_S:=by
  refine pure_by sameF_E 6 (fi:={fn:=Tryz.f15,hooks:=[],draws:=[]}) ⟨Tryz.func15,by kernel_rfl,by kernel_rfl⟩ ?_
  rintro _ K ⟨x,y,rfl,hK⟩
  replace hK : ∀ r,r = .bool (decide (x = y)) → K r:=fun r h=>h ▸ hK
  repeat' first | (refine fun (b : Bool) hb=>?_; cases b <;> (first | exact absurd hb (by decide) | exact Bool.noConfusion (show true = false from hb) | exact Bool.noConfusion (show false = true from hb) | skip)) | (refine fun (hl : _ ≤ MAXL)=>?_) | fail
  rotate_left
  · refine hK _ ?_
    congr 1
    grind
  conv=>whnf
  refine loop_live [1,2,15,16] (σ:=Nat) (fun i=>[(17,.int .i64 i)]) (fun _=>[]) (fun i=>i ≤ x.length ∧ x.take i = y.take i) (fun i=>x.length - i) 0 ?_
  conv=>whnf
  refine ⟨(by (refine wk_auto ?_; refine Sel4.mk rfl rfl ?_ ?_ <;> (repeat' (first | exact True.intro | exact rfl | exact Or.inl rfl | exact Or.inr rfl | refine And.intro ?_ ?_ | fail)))),⟨Nat.zero_le _,rfl⟩,?_⟩
  intro i ⟨hi,hI⟩
  have hlen : x.length = y.length:=by
    have h : (!decide ((x.length : Int) = (y.length : Int))) = false:=by assumption
    have h2 : (x.length : Int) = (y.length : Int):=by simpa using h
    omega
  repeat' first | (refine fun (b : Bool) hb=>?_; cases b <;> (first | exact absurd hb (by decide) | exact Bool.noConfusion (show true = false from hb) | exact Bool.noConfusion (show false = true from hb) | skip)) | refine ⟨_,rfl,?_,rfl,?_⟩ | fail
  · have hix : i = x.length := by
      have h:=of_decide_eq_false (by assumption : decide ((i : Int) < (x.length : Int)) = false)
      omega
    subst hix
    rw [List.take_length,hlen,List.take_length] at hI
    conv=>whnf
    skip
    refine hK _ ?_
    congr 1
    exact (decide_eq_true hI).symm
  all_goals
    have g1 : i < x.length:=by
      have h:=of_decide_eq_true (by assumption : decide ((i : Int) < (x.length : Int)) = true)
      omega
    have g2 : i < y.length:=by omega
  · exact g1
  · exact g2
  · conv=>whnf
    skip
    refine hK _ ?_
    congr 1
    have hn : ¬ x[i].name = y[i].name:=of_decide_eq_false (by assumption)
    exact (decide_eq_false fun h=>hn (by subst h; rfl)).symm
  · have hn : x[i].name = y[i].name:=of_decide_eq_true (by assumption)
    conv=>whnf
    skip
    refine ⟨x[i].b,y[i].b,rfl,?_⟩
    repeat' first | (refine fun (b : Bool) hb=>?_; cases b <;> (first | exact absurd hb (by decide) | exact Bool.noConfusion (show true = false from hb) | exact Bool.noConfusion (show false = true from hb) | skip)) | refine And.intro (a:=I64 _) ?_ ?_ | fail
    · have hm : x.length ≤ MAXL:=by assumption
      unfold I64; unfold MAXL at hm; omega
    · conv=>whnf
      skip
      have hbb : x[i].b = y[i].b:=by simpa using ‹(!decide (x[i].b = y[i].b)) = false›
      refine ⟨i + 1,(by (refine wk_auto ?_; refine Sel4.mk rfl rfl ?_ ?_ <;> (repeat' (first | exact True.intro | exact rfl | exact Or.inl rfl | exact Or.inr rfl | refine And.intro ?_ ?_ | fail)))),⟨g1,?_⟩,by omega⟩
      rw [List.take_succ_eq_append_getElem g1,List.take_succ_eq_append_getElem g2,hI,files_eq hn hbb]
    · have hbb : ¬ x[i].b = y[i].b:=by simpa using ‹(!decide (x[i].b = y[i].b)) = true›
      conv=>whnf
      skip
      refine hK _ ?_
      congr 1
      exact (decide_eq_false fun h=>hbb (by subst h; rfl)).symm
end Gv
namespace Gv
variable [Glob] [Laid]
def samePB (a b : PipeS) : Bool:=decide (a.b = b.b) && (decide (a.room = b.room) && (decide (a.closed = b.closed) && decide (a.shut = b.shut)))
theorem samePB_iff {a b : PipeS} : samePB a b = true ↔ a = b:=by
  unfold samePB
  rw [Bool.and_eq_true,Bool.and_eq_true,Bool.and_eq_true,decide_eq_true_iff,decide_eq_true_iff,decide_eq_true_iff,decide_eq_true_iff]
  constructor
  · obtain ⟨a1,a2,a3,a4⟩:=a
    obtain ⟨b1,b2,b3,b4⟩:=b
    rintro ⟨h1,h2,h3,h4⟩
    simp only at h1 h2 h3 h4
    subst h1; subst h2; subst h3; subst h4; rfl
  · rintro rfl; exact ⟨rfl,rfl,rfl,rfl⟩
instance : DecidableEq PipeS:=fun a b=>if h : samePB a b = true then .isTrue (samePB_iff.1 h) else .isFalse fun e=>h (samePB_iff.2 e)
theorem samePi_ca : callable Tryz.prog 17 = true:=by kernel_rfl
def samePi_S : Spec:=fun args K=>∃ a b : PipeS,args = [pipeV a,pipeV b] ∧ K (.bool (samePB a b))
noncomputable def samePi_lib : List (Nat × Spec):=[(18,equalB_S)]
noncomputable def samePi_fns : List (Nat × FnI):=[]
noncomputable def samePi_prims : List (Nat × PSpec):=[]
theorem samePi_E : EnvOK ⟨Tryz.prog,tys,samePi_lib,samePi_fns,samePi_prims,[]⟩:=env_ok mixed0 tys0 (.cons equalB_ca equalB_ok .nil) .nil .nil rfl
set_option maxHeartbeats 4000000 in
theorem samePi_ok : Pure Tryz.prog 17 samePi_S:=by
  refine pure_by samePi_E 6 (fi:={fn:=Tryz.f17,hooks:=[],draws:=[]}) ⟨Tryz.func17,by kernel_rfl,by kernel_rfl⟩ ?_
  rintro _ K ⟨x,y,rfl,hK⟩
  replace hK : ∀ r,r = .bool (samePB x y) → K r:=fun r h=>h ▸ hK
  skip
  refine ⟨x.b,y.b,rfl,?_⟩
  repeat' first | (refine fun (b : Bool) hb=>?_; cases b <;> (first | exact absurd hb (by decide) | exact Bool.noConfusion (show true = false from hb) | exact Bool.noConfusion (show false = true from hb) | skip)) | fail
  all_goals (try (conv=>whnf))
  all_goals (skip)
  all_goals
    refine hK _ ?_
    congr 1
    unfold samePB
    simp_all
    try (cases x.shut <;> cases y.shut <;> rfl)
end Gv
namespace Gv
variable [Glob] [Laid]
theorem listsR_ca : callable Tryz.prog 97 = true:=by kernel_rfl
def listsR_S : Spec:=fun args K=>∃ a b : List Bs,args = [.sl blV a,.sl blV b] ∧ K (.bool (decide (a = b)))
noncomputable def listsR_lib : List (Nat × Spec):=[(18,equalB_S)]
noncomputable def listsR_fns : List (Nat × FnI):=[(60,{fn:=Tryz.f60,hooks:=[],draws:=[]}),(98,{fn:=Tryz.f98,hooks:=[],draws:=[]})]
noncomputable def listsR_prims : List (Nat × PSpec):=[]
theorem listsR_E : EnvOK ⟨Tryz.prog,tys,listsR_lib,listsR_fns,listsR_prims,[]⟩:=env_ok mixed0 tys0 (.cons equalB_ca equalB_ok .nil) (.cons (by kernel_rfl) ⟨Tryz.func60,by kernel_rfl,by kernel_rfl⟩ (.cons (by kernel_rfl) ⟨Tryz.func98,by kernel_rfl,by kernel_rfl⟩ .nil)) .nil rfl
set_option maxHeartbeats 4000000 in
theorem listsR_ok : Pure Tryz.prog 97 listsR_S:=by
  refine pure_by listsR_E 6 (fi:={fn:=Tryz.f97,hooks:=[],draws:=[]}) ⟨Tryz.func97,by kernel_rfl,by kernel_rfl⟩ ?_
  rintro _ K ⟨x,y,rfl,hK⟩
  replace hK : ∀ r,r = .bool (decide (x = y)) → K r:=fun r h=>h ▸ hK
  repeat' first | (refine fun (b : Bool) hb=>?_; cases b <;> (first | exact absurd hb (by decide) | exact Bool.noConfusion (show true = false from hb) | exact Bool.noConfusion (show false = true from hb) | skip)) | (refine fun (hl : _ ≤ MAXL)=>?_) | fail
  rotate_left
  · refine hK _ ?_
    congr 1
    grind
  conv=>whnf
  refine loop_live [1,2,15,16] (σ:=Nat) (fun i=>[(17,.int .i64 i)]) (fun _=>[]) (fun i=>i ≤ x.length ∧ x.take i = y.take i) (fun i=>x.length - i) 0 ?_
  conv=>whnf
  refine ⟨(by (refine wk_auto ?_; refine Sel4.mk rfl rfl ?_ ?_ <;> (repeat' (first | exact True.intro | exact rfl | exact Or.inl rfl | exact Or.inr rfl | refine And.intro ?_ ?_ | fail)))),⟨Nat.zero_le _,rfl⟩,?_⟩
  intro i ⟨hi,hI⟩
  repeat' first | (refine fun (b : Bool) hb=>?_; cases b <;> (first | exact absurd hb (by decide) | exact Bool.noConfusion (show true = false from hb) | exact Bool.noConfusion (show false = true from hb) | skip)) | refine ⟨_,rfl,?_,rfl,?_⟩ | fail
  all_goals try ((first | omega | (unfold I64; omega) | (simp only [List.length_append,List.length_map,List.length_cons,List.length_nil,Nat.mul_one,Int.ofNat_eq_natCast] at *; omega) | (dsimp only at *; omega) | (unfold I64; dsimp only at *; omega) | (unfold I64; grind) | grind); done)
  · refine hK _ ?_
    congr 1
    have e : x = y:=by
      have h1 : x.take i = x:=List.take_of_length_le (by grind)
      have h2 : y.take i = y:=List.take_of_length_le (by grind)
      rw [← h1,← h2,hI]
    simp [e]
  have g1 : i < x.length:=by grind
  have g2 : i < y.length:=by grind
  refine ⟨x[i],y[i],rfl,?_⟩
  repeat' first | (refine fun (b : Bool) hb=>?_; cases b <;> (first | exact absurd hb (by decide) | exact Bool.noConfusion (show true = false from hb) | exact Bool.noConfusion (show false = true from hb) | skip)) | refine And.intro (a:=I64 _) ?_ ?_ | fail
  all_goals try ((first | omega | (unfold I64; omega) | (simp only [List.length_append,List.length_map,List.length_cons,List.length_nil,Nat.mul_one,Int.ofNat_eq_natCast] at *; omega) | (dsimp only at *; omega) | (unfold I64; dsimp only at *; omega) | (unfold I64; grind) | grind); done)
  · refine ⟨i + 1,?_,⟨?_,?_⟩,?_⟩
    · exact (by (refine wk_auto ?_; refine Sel4.mk rfl rfl ?_ ?_ <;> (repeat' (first | exact True.intro | exact rfl | exact Or.inl rfl | exact Or.inr rfl | refine And.intro ?_ ?_ | fail))))
    · grind
    · rw [List.take_succ_eq_append_getElem g1,List.take_succ_eq_append_getElem g2,hI]
      have e : x[i] = y[i]:=by grind
      rw [e]
    · grind
  · refine hK _ ?_
    congr 1
    grind
end Gv
namespace Gv
variable [Glob] [Laid]
theorem proc_eq {x y : ProcS} : x = y ↔ x.pos = y.pos ∧ x.read = y.read ∧ x.over = y.over ∧ x.got = y.got ∧ x.out = y.out:=by
  cases x; cases y
  simp only [ProcS.mk.injEq]
  constructor
  · rintro ⟨a,b,c,d,e⟩; exact ⟨b,d,e,a,c⟩
  · rintro ⟨a,b,c,d,e⟩; exact ⟨d,a,e,b,c⟩
theorem same2R_ca : callable Tryz.prog 101 = true:=by kernel_rfl
def same2R_P : PSpec:=fun args rows K=>∃ x y : ProcS,args = [procV x,procV y,.ptr 0 0 0] ∧ rows = [.box [.fn 97 []]] ∧ (x ≠ y → K (.lit false) [.box [.fn 97 []],.box (procV x).cells,.box (procV y).cells]) ∧ K (.bool (decide (x = y))) [.box [.fn 97 []],.box (procV x).cells,.box (procV y).cells]
noncomputable def same2R_lib : List (Nat × Spec):=[(97,listsR_S)]
noncomputable def same2R_fns : List (Nat × FnI):=[]
noncomputable def same2R_prims : List (Nat × PSpec):=[]
theorem same2R_E : EnvOK ⟨Tryz.prog,tys,same2R_lib,same2R_fns,same2R_prims,[]⟩:=env_ok mixed0 tys0 (.cons listsR_ca listsR_ok .nil) .nil .nil rfl
set_option maxHeartbeats 8000000 in
theorem same2R_prim : PrimOK Tryz.prog 101 same2R_P:=by
  refine prim_by same2R_E 6 same2R_ca (fi:={fn:=Tryz.f101,hooks:=[],draws:=[]}) ⟨Tryz.func101,by kernel_rfl,by kernel_rfl⟩ ?_
  rintro args rows K ⟨x,y,rfl,rfl,hL,hK⟩
  replace hK : ∀ b,b = decide (x = y) → K (.bool b) [.box [.fn 97 []],.box (procV x).cells,.box (procV y).cells]:=fun b h=>h ▸ hK
  repeat' first | (refine fun (b : Bool) hb=>?_; cases b <;> (first | exact absurd hb (by decide) | exact Bool.noConfusion (show true = false from hb) | exact Bool.noConfusion (show false = true from hb) | skip)) | fail
  · have h : ¬ x.pos = y.pos:=of_decide_eq_false (by assumption)
    conv=>whnf
    skip
    exact hL fun e=>h (proc_eq.1 e).1
  · have h : ¬ x.read = y.read:=by simpa using (by assumption : (x.read == y.read) = false)
    conv=>whnf
    skip
    exact hL fun e=>h (proc_eq.1 e).2.1
  · have h : ¬ x.over = y.over:=by simpa using (by assumption : (x.over == y.over) = false)
    conv=>whnf
    skip
    exact hL fun e=>h (proc_eq.1 e).2.2.1
  have h1 : x.pos = y.pos:=of_decide_eq_true (by assumption)
  have h2 : x.read = y.read:=by simpa using (by assumption : (x.read == y.read) = true)
  have h3 : x.over = y.over:=by simpa using (by assumption : (x.over == y.over) = true)
  conv=>whnf
  skip
  refine ⟨x.got,y.got,rfl,?_⟩
  repeat' first | (refine fun (b : Bool) hb=>?_; cases b <;> (first | exact absurd hb (by decide) | exact Bool.noConfusion (show true = false from hb) | exact Bool.noConfusion (show false = true from hb) | skip)) | fail
  · have h : ¬ x.got = y.got:=of_decide_eq_false (by assumption)
    conv=>whnf
    skip
    exact hL fun e=>h (proc_eq.1 e).2.2.2.1
  have h4 : x.got = y.got:=of_decide_eq_true (by assumption)
  conv=>whnf
  skip
  refine ⟨x.out,y.out,rfl,?_⟩
  skip
  refine hK _ ?_
  by_cases h : x.out = y.out
  · rw [decide_eq_true h,decide_eq_true (proc_eq.2 ⟨h1,h2,h3,h4,h⟩)]
  · rw [decide_eq_false h,decide_eq_false (fun e=>h (proc_eq.1 e).2.2.2.2)]
end Gv
namespace Gv
variable [Glob] [Laid]
theorem pipes_at {α : Type} {a b : List α} {i : Nat} (h : a = b) (h1 : i < a.length) (h2 : i < b.length) : a[i] = b[i]:=by subst h; rfl
def sameMB (a b : MachS) : Bool:=decide (a.g = b.g ∧ a.f = b.f ∧ a.sunk = b.sunk ∧ a.pipes = b.pipes ∧ a.p = b.p)
theorem sameMB_iff {a b : MachS} : sameMB a b = true ↔ a = b:=by
  unfold sameMB
  rw [decide_eq_true_iff]
  constructor
  · obtain ⟨a1,a2,a3,a4,a5⟩:=a
    obtain ⟨b1,b2,b3,b4,b5⟩:=b
    rintro ⟨h1,h2,h3,h4,h5⟩
    simp only at h1 h2 h3 h4 h5
    subst h1; subst h2; subst h3; subst h4; subst h5; rfl
  · rintro rfl; exact ⟨rfl,rfl,rfl,rfl,rfl⟩
theorem sameM_ca : callable Tryz.prog 43 = true:=by kernel_rfl
def sameM_S : Spec:=fun args K=>∃ a b : MachS,args = [machV a,machV b] ∧ K (.bool (sameMB a b))
noncomputable def sameM_lib : List (Nat × Spec):=[(14,sameGR_S),(15,sameF_S),(18,equalB_S),(17,samePi_S)]
noncomputable def sameM_fns : List (Nat × FnI):=[(99,{fn:=Tryz.f99,hooks:=[],draws:=[]}),(100,{fn:=Tryz.f100,hooks:=[],draws:=[]})]
noncomputable def sameM_prims : List (Nat × PSpec):=[(101,same2R_P)]
theorem sameM_E : EnvOK ⟨Tryz.prog,tys,sameM_lib,sameM_fns,sameM_prims,[]⟩:=env_ok mixed0 tys0 (.cons sameGR_ca sameGR_ok (.cons sameF_ca sameF_ok (.cons equalB_ca equalB_ok (.cons samePi_ca samePi_ok .nil)))) (.cons (by kernel_rfl) ⟨Tryz.func99,by kernel_rfl,by kernel_rfl⟩ (.cons (by kernel_rfl) ⟨Tryz.func100,by kernel_rfl,by kernel_rfl⟩ .nil)) (.cons same2R_prim .nil) rfl
set_option maxHeartbeats 16000000 in
theorem sameM_ok : Pure Tryz.prog 43 sameM_S:=by
  refine pure_by sameM_E 6 (fi:={fn:=Tryz.f43,hooks:=[],draws:=[]}) ⟨Tryz.func43,by kernel_rfl,by kernel_rfl⟩ ?_
  rintro _ K ⟨x,y,rfl,hK⟩
  replace hK : ∀ r,r = .bool (sameMB x y) → K r:=fun r h=>h ▸ hK
  skip
  refine ⟨x.g,y.g,rfl,?_⟩
  repeat' first | (refine fun (b : Bool) hb=>?_; cases b <;> (first | exact absurd hb (by decide) | exact Bool.noConfusion (show true = false from hb) | exact Bool.noConfusion (show false = true from hb) | skip)) | fail
  · have h1 : ¬ x.g = y.g:=of_decide_eq_false (by assumption)
    conv=>whnf
    skip
    refine hK _ ?_
    congr 1
    exact (decide_eq_false fun h=>h1 h.1).symm
  have h1 : x.g = y.g:=of_decide_eq_true (by assumption)
  conv=>whnf
  skip
  refine ⟨x.f,y.f,rfl,?_⟩
  repeat' first | (refine fun (b : Bool) hb=>?_; cases b <;> (first | exact absurd hb (by decide) | exact Bool.noConfusion (show true = false from hb) | exact Bool.noConfusion (show false = true from hb) | skip)) | fail
  · have h2 : ¬ x.f = y.f:=of_decide_eq_false (by assumption)
    conv=>whnf
    skip
    refine hK _ ?_
    congr 1
    exact (decide_eq_false fun h=>h2 h.2.1).symm
  have h2 : x.f = y.f:=of_decide_eq_true (by assumption)
  conv=>whnf
  skip
  refine ⟨x.sunk,y.sunk,rfl,?_⟩
  repeat' first | (refine fun (b : Bool) hb=>?_; cases b <;> (first | exact absurd hb (by decide) | exact Bool.noConfusion (show true = false from hb) | exact Bool.noConfusion (show false = true from hb) | skip)) | (refine fun (hl : _ ≤ MAXL)=>?_) | fail
  · have h3 : ¬ x.sunk = y.sunk:=of_decide_eq_false (by assumption)
    conv=>whnf
    skip
    refine hK _ ?_
    congr 1
    exact (decide_eq_false fun h=>h3 h.2.2.1).symm
  have h3 : x.sunk = y.sunk:=of_decide_eq_true (by assumption)
  conv=>whnf
  skip
  rotate_left
  · have h4 : ¬ x.pipes = y.pipes := fun h => by
      have hb : (!decide ((x.pipes.length : Int) = (y.pipes.length : Int))) = true:=by assumption
      rw [h] at hb
      simp at hb
    conv=>whnf
    skip
    refine hK _ ?_
    congr 1
    exact (decide_eq_false fun h=>h4 h.2.2.2.1).symm
  have hql : x.pipes.length = y.pipes.length:=by
    have hb : (!decide ((x.pipes.length : Int) = (y.pipes.length : Int))) = false:=by assumption
    have h2 : (x.pipes.length : Int) = (y.pipes.length : Int):=by simpa using hb
    omega
  refine loop_live [1,2,15,16] (σ:=Nat) (fun i=>[(17,.int .i64 i)]) (fun _=>[.box (machV x).cells,.box (machV y).cells,.box [.fn 97 []]]) (fun i=>i ≤ x.pipes.length ∧ x.pipes.take i = y.pipes.take i) (fun i=>x.pipes.length - i) 0 ?_
  conv=>whnf
  refine ⟨(by (refine wk_auto ?_; refine Sel4.mk rfl rfl ?_ ?_ <;> (repeat' (first | exact True.intro | exact rfl | exact Or.inl rfl | exact Or.inr rfl | refine And.intro ?_ ?_ | fail)))),⟨Nat.zero_le _,rfl⟩,fun i hi=>?_⟩
  obtain ⟨hi,hI⟩:=hi
  repeat' first | (refine fun (b : Bool) hb=>?_; cases b <;> (first | exact absurd hb (by decide) | exact Bool.noConfusion (show true = false from hb) | exact Bool.noConfusion (show false = true from hb) | skip)) | (refine fun (hl : _ ≤ MAXL)=>?_) | refine ⟨_,rfl,?_,rfl,?_⟩ | fail
  rotate_right 3
  · have h:=of_decide_eq_true (by assumption : decide ((i : Int) < (x.pipes.length : Int)) = true)
    omega
  · have h:=of_decide_eq_true (by assumption : decide ((i : Int) < (x.pipes.length : Int)) = true)
    omega
  · have g1 : i < x.pipes.length := by
      have h:=of_decide_eq_true (by assumption : decide ((i : Int) < (x.pipes.length : Int)) = true)
      omega
    have g2 : i < y.pipes.length:=by omega
    conv=>whnf
    skip
    refine ⟨x.pipes[i],y.pipes[i],rfl,?_⟩
    repeat' first | (refine fun (b : Bool) hb=>?_; cases b <;> (first | exact absurd hb (by decide) | exact Bool.noConfusion (show true = false from hb) | exact Bool.noConfusion (show false = true from hb) | skip)) | refine And.intro (a:=I64 _) ?_ ?_ | fail
    · have hm : x.pipes.length ≤ MAXL:=by assumption
      unfold I64; unfold MAXL at hm; omega
    · have hbb : x.pipes[i] = y.pipes[i]:=samePB_iff.1 (by simpa using ‹(!samePB x.pipes[i] y.pipes[i]) = false›)
      conv=>whnf
      skip
      refine ⟨i + 1,(by (refine wk_auto ?_; refine Sel4.mk rfl rfl ?_ ?_ <;> (repeat' (first | exact True.intro | exact rfl | exact Or.inl rfl | exact Or.inr rfl | refine And.intro ?_ ?_ | fail)))),⟨g1,?_⟩,by omega⟩
      rw [List.take_succ_eq_append_getElem g1,List.take_succ_eq_append_getElem g2,hI,hbb]
    · have hbb : ¬ x.pipes[i] = y.pipes[i] := fun h => by
        have hb : (!samePB x.pipes[i] y.pipes[i]) = true:=by assumption
        rw [samePB_iff.2 h] at hb
        cases hb
      conv=>whnf
      skip
      refine hK _ ?_
      congr 1
      exact (decide_eq_false fun h=>hbb (pipes_at h.2.2.2.1 g1 g2)).symm
  all_goals
    have hix : i = x.pipes.length:=by
      have h:=of_decide_eq_false (by assumption : decide ((i : Int) < (x.pipes.length : Int)) = false)
      omega
    subst hix
    rw [List.take_length,hql,List.take_length] at hI
  rotate_left
  · have h5 : ¬ x.p = y.p := fun h => by
      have hb : (!decide ((x.p.length : Int) = (y.p.length : Int))) = true:=by assumption
      rw [h] at hb
      simp at hb
    conv=>whnf
    skip
    refine hK _ ?_
    congr 1
    exact (decide_eq_false fun h=>h5 h.2.2.2.2).symm
  have hpl : x.p.length = y.p.length:=by
    have hb : (!decide ((x.p.length : Int) = (y.p.length : Int))) = false:=by assumption
    have h2 : (x.p.length : Int) = (y.p.length : Int):=by simpa using hb
    omega
  conv=>whnf
  skip
  refine loop_live [1,2,15,16] (σ:=Nat) (fun i=>[(17,.int .i64 i)]) (fun _=>[.box (machV x).cells,.box (machV y).cells,.box [.fn 97 []]]) (fun i=>i ≤ x.p.length ∧ x.p.take i = y.p.take i) (fun i=>x.p.length - i) 0 ?_
  conv=>whnf
  refine ⟨(by (refine wk_auto ?_; refine Sel4.mk rfl rfl ?_ ?_ <;> (repeat' (first | exact True.intro | exact rfl | exact Or.inl rfl | exact Or.inr rfl | refine And.intro ?_ ?_ | fail)))),⟨Nat.zero_le _,rfl⟩,fun i hi=>?_⟩
  obtain ⟨hi,hJ⟩:=hi
  repeat' first | (refine fun (b : Bool) hb=>?_; cases b <;> (first | exact absurd hb (by decide) | exact Bool.noConfusion (show true = false from hb) | exact Bool.noConfusion (show false = true from hb) | skip)) | refine ⟨_,rfl,?_,rfl,?_⟩ | fail
  · have hix : i = x.p.length := by
      have h:=of_decide_eq_false (by assumption : decide ((i : Int) < (x.p.length : Int)) = false)
      omega
    subst hix
    rw [List.take_length,hpl,List.take_length] at hJ
    conv=>whnf
    skip
    refine hK _ ?_
    congr 1
    exact (decide_eq_true ⟨h1,h2,h3,hI,hJ⟩).symm
  · have h:=of_decide_eq_true (by assumption : decide ((i : Int) < (x.p.length : Int)) = true)
    omega
  · have h:=of_decide_eq_true (by assumption : decide ((i : Int) < (x.p.length : Int)) = true)
    omega
  have g1 : i < x.p.length:=by
    have h:=of_decide_eq_true (by assumption : decide ((i : Int) < (x.p.length : Int)) = true)
    omega
  have g2 : i < y.p.length:=by omega
  conv=>whnf
  skip
  refine ⟨x.p[i],y.p[i],rfl,rfl,fun hne=>?_,?_⟩
  · conv=>whnf
    skip
    conv=>whnf
    skip
    refine hK _ ?_
    congr 1
    exact (decide_eq_false fun h=>hne (pipes_at h.2.2.2.2 g1 g2)).symm
  repeat' first | (refine fun (b : Bool) hb=>?_; cases b <;> (first | exact absurd hb (by decide) | exact Bool.noConfusion (show true = false from hb) | exact Bool.noConfusion (show false = true from hb) | skip)) | refine And.intro (a:=I64 _) ?_ ?_ | fail
  · have hm : x.p.length ≤ MAXL:=by assumption
    unfold I64; unfold MAXL at hm; omega
  · have hbb : x.p[i] = y.p[i]:=by simpa using ‹(!decide (x.p[i] = y.p[i])) = false›
    conv=>whnf
    skip
    refine ⟨i + 1,(by (refine wk_auto ?_; refine Sel4.mk rfl rfl ?_ ?_ <;> (repeat' (first | exact True.intro | exact rfl | exact Or.inl rfl | exact Or.inr rfl | refine And.intro ?_ ?_ | fail)))),⟨g1,?_⟩,by omega⟩
    rw [List.take_succ_eq_append_getElem g1,List.take_succ_eq_append_getElem g2,hJ,hbb]
  · have hne : ¬ x.p[i] = y.p[i]:=by simpa using ‹(!decide (x.p[i] = y.p[i])) = true›
    conv=>whnf
    skip
    refine hK _ ?_
    congr 1
    exact (decide_eq_false fun h=>hne (pipes_at h.2.2.2.2 g1 g2)).symm
end Gv
namespace Gv
variable [Glob] [Laid]
theorem containsE_ca : callable Tryz.prog 44 = true:=by kernel_rfl
def containsE_S : Spec:=fun args K=>∃ (l : List Int) (c : Int),args = [.sl intV l,.int .i64 c] ∧ K (.bool (decide (c ∈ l)))
noncomputable def containsE_lib : List (Nat × Spec):=[]
noncomputable def containsE_fns : List (Nat × FnI):=[(102,{fn:=Tryz.f102,hooks:=[],draws:=[]})]
noncomputable def containsE_prims : List (Nat × PSpec):=[]
theorem containsE_E : EnvOK ⟨Tryz.prog,tys,containsE_lib,containsE_fns,containsE_prims,[]⟩:=env_ok mixed0 tys0 .nil (.cons (by kernel_rfl) ⟨Tryz.func102,by kernel_rfl,by kernel_rfl⟩ .nil) .nil rfl
set_option maxHeartbeats 4000000 in
theorem containsE_ok : Pure Tryz.prog 44 containsE_S:=by
  refine pure_by containsE_E 6 (fi:={fn:=Tryz.f44,hooks:=[],draws:=[]}) ⟨Tryz.func44,by kernel_rfl,by kernel_rfl⟩ ?_
  rintro _ K ⟨l,c,rfl,hK⟩
  replace hK : ∀ r,r = .bool (decide (c ∈ l)) → K r:=fun r h=>h ▸ hK
  refine fun (hl : _ ≤ MAXL)=>?_
  conv=>whnf
  refine loop_live [0,1,7] (σ:=Nat) (fun i=>[(8,.int .i64 i)]) (fun i=>[]) (fun i=>i ≤ l.length ∧ c ∉ l.take i) (fun i=>l.length - i) 0 ?_
  conv=>whnf
  refine ⟨(by (refine wk_auto ?_; refine Sel4.mk rfl rfl ?_ ?_ <;> (repeat' (first | exact True.intro | exact rfl | exact Or.inl rfl | exact Or.inr rfl | refine And.intro ?_ ?_ | fail)))),⟨Nat.zero_le _,by simp⟩,fun i hi=>?_⟩
  obtain ⟨hi,hc⟩:=hi
  repeat' first | (refine fun (b : Bool) hb=>?_; cases b <;> (first | exact absurd hb (by decide) | exact Bool.noConfusion (show true = false from hb) | exact Bool.noConfusion (show false = true from hb) | skip)) | refine And.intro (a:=I64 _) ?_ ?_ | refine ⟨_,rfl,?_,rfl,?_⟩ | fail
  · refine hK _ ?_
    have e : l.take i = l:=List.take_of_length_le (by grind)
    rw [e] at hc
    simp [hc]
  · grind
  · (first | omega | (unfold I64; omega) | (simp only [List.length_append,List.length_map,List.length_cons,List.length_nil,Nat.mul_one,Int.ofNat_eq_natCast] at *; omega) | (dsimp only at *; omega) | (unfold I64; dsimp only at *; omega) | (unfold I64; grind) | grind)
  · have hi2 : i < l.length:=by grind
    refine ⟨i + 1,(by (refine wk_auto ?_; refine Sel4.mk rfl rfl ?_ ?_ <;> (repeat' (first | exact True.intro | exact rfl | exact Or.inl rfl | exact Or.inr rfl | refine And.intro ?_ ?_ | fail)))),⟨by grind,?_⟩,by grind⟩
    rw [List.take_succ_eq_append_getElem hi2]
    simp only [List.mem_append,List.mem_singleton,not_or]
    refine ⟨hc,fun e=>?_⟩
    subst e
    simp at *
  · have hi2 : i < l.length:=by grind
    refine hK _ ?_
    have e : c = l[i]:=by grind
    have h1 : decide (c ∈ l) = true:=by
      rw [e]
      simp
    have h2 : decide ((0 : Int) ≤ (i : Int)) = true:=by simp
    rw [h1,h2]
end Gv
namespace Gv
variable [Glob] [Laid] [Nums] [Errs]
theorem endX_ca : callable Tryz.prog 42 = true:=by kernel_rfl
def endX_P : PSpec:=fun args rows K=>∃ (N : List Gp.Node) (F : List FileS) (rm : Int) (ps : List Int),args = [.int .i64 rm,.sl intV ps,.ptr 0 0 0,.ptr 1 0 0] ∧ rows = [.box [.sl nodeV N],.box [.sl fileV F]] ∧ (checkG N = 0 ∧ cnt 1 N ≤ 4 ∧ checkFiles F = 0 ∧ 1 ≤ rm ∧ rm ≤ 1000) ∧ ∀ M,Ok F N rm M → overM M = true → M.sunk = (evalG N F).1 → K (.tup [machV M,.bool true]) [.box [.sl nodeV N],.box [.sl fileV F],.box (machV M).cells,.box (machV M).cells]
noncomputable def endX_lib : List (Nat × Spec):=[(19,newX_S),(20,runX_S),(22,finX_S)]
noncomputable def endX_fns : List (Nat × FnI):=[]
noncomputable def endX_prims : List (Nat × PSpec):=[]
theorem endX_E : EnvOK ⟨Tryz.prog,tys,endX_lib,endX_fns,endX_prims,[]⟩:=env_ok mixed0 tys0 (.cons newX_ca newX_ok (.cons runX_ca runX_ok (.cons finX_ca finX_ok .nil))) .nil .nil rfl
set_option maxHeartbeats 16000000 in
theorem endX_prim : PrimOK Tryz.prog 42 endX_P:=by
  refine prim_by endX_E 6 endX_ca (fi:={fn:=Tryz.f42,hooks:=[],draws:=[(4,[0,0,0,4,12,30,63,127,255,255,255,511,4095])]}) ⟨Tryz.func42,by kernel_rfl,by kernel_rfl⟩ ?_
  rintro args rows K ⟨N,F,rm,ps,rfl,rfl,⟨hg,h4,hf,h1,h2⟩,hK⟩
  have G:=goes (f:=F) (rm:=rm) hg h4 hf ⟨h1,h2⟩
  have hs : newP N F rm = (freshM N F rm,0):=by
    unfold newP
    rw [if_neg (fun h=>h hg),if_neg (fun h=>h hf),if_neg (by omega)]
  have c0:=G.ck _ G.fresh
  have hO:=run_ok (gf_of hg) (ps.take (min ps.length 500)) (freshM N F rm) [] G.fresh
  obtain ⟨M,S,hrp⟩ : ∃ M S,runP (freshM N F rm) (ps.take (min ps.length 500)) = (M,S,0) ∧ (runGo (ps.take (min ps.length 500)) (freshM N F rm) []).1 = M:=by
    refine ⟨(runGo (ps.take (min ps.length 500)) (freshM N F rm) []).1,(runGo (ps.take (min ps.length 500)) (freshM N F rm) []).2,?_,rfl⟩
    unfold runP
    rw [if_neg (fun h=>h c0),if_neg (by rw [List.length_take]; omega)]
  obtain ⟨hrp,hM⟩:=hrp
  rw [hM] at hO
  have c1:=G.ck _ hO
  obtain ⟨n,M2,f1,f2,f3,f4⟩:=G.fin _ hO
  replace hK : ∀ b,b = true → K (.tup [machV M2,.bool b]) [.box [.sl nodeV N],.box [.sl fileV F],.box (machV M2).cells,.box (machV M2).cells]:=fun b h=>h ▸ hK M2 f2 f3 f4
  skip
  refine ⟨N,F,rm,rfl,?_⟩
  rw [hs]
  repeat' first | exact True.intro | (refine fun (b : Bool) hb=>?_; cases b <;> (first | exact absurd hb (by decide) | exact Bool.noConfusion (show true = false from hb) | exact Bool.noConfusion (show false = true from hb) | skip)) | refine ⟨_,⟨rfl,rfl⟩,?_⟩ | refine ⟨_,(fun _=>⟨rfl,rfl⟩),?_⟩ | refine And.intro (a:=chkPast _ _ _ _ _ _ _ _) ?_ ?_ | fail
  conv=>whnf
  skip
  apply Exists.intro
  apply And.intro
  · refine ⟨fun _=>rfl,min ps.length 500,?_,Nat.min_le_left _ _,?_⟩
    rotate_left
    · exact ⟨rfl,rfl⟩
    · omega
  refine ⟨.tup [machV M,.sl intV S,.int .i64 0],⟨freshM N F rm,ps.take (min ps.length 500),Ok F N rm,rfl,fun _=>⟨right_copy (right_of c0),G.fresh,G.steps⟩,by rw [hrp],rfl⟩,?_⟩
  repeat' first | exact True.intro | (refine fun (b : Bool) hb=>?_; cases b <;> (first | exact absurd hb (by decide) | exact Bool.noConfusion (show true = false from hb) | exact Bool.noConfusion (show false = true from hb) | skip)) | refine ⟨_,⟨rfl,rfl⟩,?_⟩ | refine ⟨_,_,⟨rfl,rfl⟩,?_⟩ | refine And.intro (a:=chkPend _ _ _ _ _ _) ?_ ?_ | fail
  conv=>whnf
  skip
  refine ⟨M,n,(M2,0),Ok F N rm,rfl,⟨fun _=>⟨right_copy (right_of c1),hO,G.steps,f1⟩,fun h=>absurd c1 h⟩,?_⟩
  skip
  exact hK _ (by simp)
end Gv
namespace Gv
variable [Glob] [Laid] [Nums] [Errs]
def xPicks_S : Spec:=fun args K=>∃ (f : List Bs) (c : List Cmd) (t : Bs) (w : Int) (F : List FileS) (ps os : List Int) (rm : Int),args = [.agg [.sl strV f,.sl cmdV c,.str t],.int .i64 w,.sl fileV F,.sl intV ps,.sl intV os,.int .i64 rm] ∧ I64 rm ∧ K (.bool true)
noncomputable def xPicks_lib : List (Nat × Spec):=[(24,plan_S),(13,milledX_S),(32,cfiles_S),(38,lineF_S),(26,atI_S),(18,equalB_S),(20,runX_S),(43,sameM_S),(44,containsE_S)]
noncomputable def xPicks_fns : List (Nat × FnI):=[]
noncomputable def xPicks_prims : List (Nat × PSpec):=[(42,endX_P)]
theorem xPicks_E : EnvOK ⟨Tryz.prog,tys,xPicks_lib,xPicks_fns,xPicks_prims,[]⟩:=env_ok mixed0 tys0 (.cons plan_ca plan_ok (.cons milledX_ca milledX_ok (.cons cfiles_ca cfiles_ok (.cons lineF_ca lineF_ok (.cons atI_ca atI_ok (.cons equalB_ca equalB_ok (.cons runX_ca runX_ok (.cons sameM_ca sameM_ok (.cons containsE_ca containsE_ok .nil))))))))) .nil (.cons endX_prim .nil) rfl
set_option maxHeartbeats 16000000 in
theorem xPicks_ok : Pure Tryz.prog 8 xPicks_S:=by
  refine pure_by xPicks_E 6 (fi:={fn:=Tryz.f8,hooks:=[],draws:=[(14,[0,0,0,4,12,30,63,127,255,255,255,0,2559,7167,16383])]}) ⟨Tryz.func8,by kernel_rfl,by kernel_rfl⟩ ?_
  rintro _ K ⟨f,c,t,w,F,ps,os,rm,rfl,hrm,hK⟩
  replace hK : ∀ r,r = .bool true → K r:=fun r h=>h ▸ hK
  obtain ⟨r,hr⟩ : ∃ r,plan ⟨f,c,t⟩ w = r:=⟨_,rfl⟩
  have r0:=Int.emod_nonneg rm (show (1000 : Int) ≠ 0 by decide)
  have r1:=Int.emod_lt_of_pos rm (show (0 : Int) < 1000 by decide)
  skip
  refine ⟨f,c,t,w,rfl,?_⟩
  rw [hr]
  repeat' first | (refine fun (b : Bool) hb=>?_; cases b <;> (first | exact absurd hb (by decide) | exact Bool.noConfusion (show true = false from hb) | exact Bool.noConfusion (show false = true from hb) | skip)) | refine ⟨rfl,?_⟩ | fail
  rotate_left
  · conv=>whnf
    skip
    exact hK _ rfl
  have hr0 : r.2 = 0:=by simpa using ‹(!decide (r.2 = 0)) = false›
  obtain ⟨hc,h5,rfl⟩:=planS_ok hr hr0
  have hg:=(plan_gf hc h5).1
  have h4:=(plan_gf hc h5).2
  generalize hN : planNodes ⟨f,c,t⟩ w = N at *
  conv=>whnf
  skip
  refine ⟨F,rfl,?_⟩
  repeat' first | (refine fun (b : Bool) hb=>?_; cases b <;> (first | exact absurd hb (by decide) | exact Bool.noConfusion (show true = false from hb) | exact Bool.noConfusion (show false = true from hb) | skip)) | fail
  rotate_left
  · conv=>whnf
    skip
    exact hK _ rfl
  have hf : checkFiles F = 0:=by simpa using ‹(!decide (checkFiles F = 0)) = false›
  conv=>whnf
  skip
  refine ⟨F,f,c,t,rfl,?_⟩
  obtain ⟨z,hz⟩ : ∃ z,shellLine F ⟨f,c,t⟩ = z:=⟨_,rfl⟩
  rw [hz]
  repeat' first | (refine fun (b : Bool) hb=>?_; cases b <;> (first | exact absurd hb (by decide) | exact Bool.noConfusion (show true = false from hb) | exact Bool.noConfusion (show false = true from hb) | skip)) | (refine fun (hl : _ ≤ MAXL)=>?_) | fail
  rotate_left
  · conv=>whnf
    skip
    exact hK _ rfl
  · conv=>whnf
    skip
    conv=>whnf
    skip
    exact hK _ rfl
  conv=>whnf
  skip
  refine ⟨rm,1000,rfl,⟨hrm,by decide,by decide⟩,?_⟩
  repeat' first | refine And.intro (a:=I64 _) ?_ ?_ | fail
  · unfold I64; omega
  conv=>whnf
  skip
  refine ⟨N,F,1 + rm % 1000,ps,rfl,rfl,⟨hg,h4,hf,by omega,by omega⟩,fun M hM1 hM2 hM3=>?_⟩
  conv=>whnf
  skip
  refine ⟨N,F,1,os,rfl,rfl,⟨hg,h4,hf,by decide,by decide⟩,fun M2 hN1 hN2 hN3=>?_⟩
  conv=>whnf
  repeat' first | (refine fun (b : Bool) hb=>?_; cases b <;> (first | exact absurd hb (by decide) | exact Bool.noConfusion (show true = false from hb) | exact Bool.noConfusion (show false = true from hb) | skip)) | fail
  conv=>whnf
  skip
  refine ⟨M.sunk,M2.sunk,rfl,?_⟩
  have hss : M.sunk = M2.sunk:=hM3.trans hN3.symm
  have G:=goes (f:=F) (rm:=1 + rm % 1000) hg h4 hf ⟨by omega,by omega⟩
  have c1:=G.ck _ hM1
  obtain ⟨q1,q2⟩:=run_over (gf_of hg) (ps.take (min ps.length 500)) M [] hM1 ((overM_iff hM1.sh.np).1 hM2)
  obtain ⟨S,hrp,hS⟩ : ∃ S,runP M (ps.take (min ps.length 500)) = (M,S,0) ∧ ¬ (0 : Int) ∈ S:=by
    refine ⟨(runGo (ps.take (min ps.length 500)) M []).2,?_,fun h=>?_⟩
    · unfold runP
      rw [if_neg (fun h=>h c1),if_neg (by rw [List.length_take]; omega),q1]
    · rcases q2 _ h with h | h | h
      · cases h
      · cases h
      · cases h
  repeat' first | exact True.intro | (refine fun (b : Bool) hb=>?_; cases b <;> (first | exact absurd hb (by decide) | exact Bool.noConfusion (show true = false from hb) | exact Bool.noConfusion (show false = true from hb) | skip)) | refine ⟨_,⟨rfl,rfl⟩,?_⟩ | refine ⟨_,(fun _=>⟨rfl,rfl⟩),?_⟩ | refine And.intro (a:=chkPast _ _ _ _ _ _ _ _) ?_ ?_ | fail
  rotate_left
  · exact absurd hss (by simpa using ‹(!decide (M.sunk = M2.sunk)) = true›)
  conv=>whnf
  skip
  apply Exists.intro
  apply And.intro
  · refine ⟨fun _=>rfl,min ps.length 500,?_,Nat.min_le_left _ _,?_⟩
    rotate_left
    · exact ⟨rfl,rfl⟩
    · omega
  refine ⟨.tup [machV M,.sl intV S,.int .i64 0],⟨M,ps.take (min ps.length 500),Ok F N (1 + rm % 1000),rfl,fun _=>⟨right_copy (right_of c1),hM1,G.steps⟩,by rw [hrp],rfl⟩,?_⟩
  repeat' first | exact True.intro | (refine fun (b : Bool) hb=>?_; cases b <;> (first | exact absurd hb (by decide) | exact Bool.noConfusion (show true = false from hb) | exact Bool.noConfusion (show false = true from hb) | skip)) | refine ⟨_,⟨rfl,rfl⟩,?_⟩ | refine ⟨_,_,⟨rfl,rfl⟩,?_⟩ | refine And.intro (a:=chkPend _ _ _ _ _ _) ?_ ?_ | refine ⟨⟨rfl,rfl⟩,?_⟩ | fail
  conv=>whnf
  skip
  refine ⟨M,M,rfl,?_⟩
  repeat' first | (refine fun (b : Bool) hb=>?_; cases b <;> (first | exact absurd hb (by decide) | exact Bool.noConfusion (show true = false from hb) | exact Bool.noConfusion (show false = true from hb) | skip)) | fail
  · exact absurd ‹sameMB M M = false› (by rw [sameMB_iff.2 rfl]; decide)
  conv=>whnf
  skip
  refine ⟨S,0,rfl,?_⟩
  skip
  refine hK _ ?_
  congr 1
  rw [decide_eq_false hS]
  rfl
end Gv
namespace Gv
variable [Glob] [Laid]
theorem opn_cmd : Opn Tryz.prog 38 cmdV (fun _=>True):=⟨fun en w fuel cs d p h hw=>by
  have hl : cs.length = 3:=(opn_width Tryz.underlying38 h).trans (by kernel_rfl)
  obtain ⟨k,_,f1⟩:=opn_field 0 0 1 (T:=3) Tryz.underlying38 rfl rfl rfl (by kernel_rfl) (opn_int Tryz.underlying3) h hw
  obtain ⟨s,_,f2⟩:=opn_field 1 1 1 (T:=9) Tryz.underlying38 rfl rfl rfl (by kernel_rfl) (opn_str Tryz.underlying9) h hw
  obtain ⟨n,_,f3⟩:=opn_field 2 2 1 (T:=3) Tryz.underlying38 rfl rfl rfl (by kernel_rfl) (opn_int Tryz.underlying3) h hw
  have:=Fit.cons 0 1 f1 rfl (Fit.cons 1 2 f2 rfl (Fit.cons 2 3 f3 rfl (Fit.last 3 hl)))
  rw [List.drop_zero] at this
  exact ⟨⟨k,s,n⟩,trivial,this⟩⟩
end Gv
namespace Gv
variable [Glob] [Laid]
def lineCells (l : LineS) : List V:=[.sl strV l.frm,.sl cmdV l.cmds,.str l.to]
theorem opn_line : Opn Tryz.prog 68 (fun l=>.agg (lineCells l)) (fun _=>True):=⟨fun en w fuel cs d p h hw=>by
  have hl : cs.length = 3:=(opn_width Tryz.underlying68 h).trans (by kernel_rfl)
  obtain ⟨k,_,f1⟩:=opn_field 0 0 1 (T:=65) Tryz.underlying68 rfl rfl rfl (by kernel_rfl) (opn_slice (k:=1) Tryz.underlying65 (by kernel_rfl) (by omega) (opn_str Tryz.underlying9)) h hw
  obtain ⟨s,_,f2⟩:=opn_field 1 1 1 (T:=66) Tryz.underlying68 rfl rfl rfl (by kernel_rfl) (opn_slice (k:=3) Tryz.underlying66 (by kernel_rfl) (by omega) opn_cmd) h hw
  obtain ⟨n,_,f3⟩:=opn_field 2 2 1 (T:=9) Tryz.underlying68 rfl rfl rfl (by kernel_rfl) (opn_str Tryz.underlying9) h hw
  have:=Fit.cons 0 1 f1 rfl (Fit.cons 1 2 f2 rfl (Fit.cons 2 3 f3 rfl (Fit.last 3 hl)))
  rw [List.drop_zero] at this
  exact ⟨⟨k,s,n⟩,trivial,this⟩⟩
end Gv
namespace Gv
variable [Glob] [Laid]
theorem opn_file : Opn Tryz.prog 56 fileV (fun _=>True):=⟨fun en w fuel cs d p h hw=>by
  have hl : cs.length = 2:=(opn_width Tryz.underlying56 h).trans (by kernel_rfl)
  obtain ⟨k,_,f1⟩:=opn_field 0 0 1 (T:=9) Tryz.underlying56 rfl rfl rfl (by kernel_rfl) (opn_str Tryz.underlying9) h hw
  obtain ⟨n,_,f3⟩:=opn_field 1 1 1 (T:=28) Tryz.underlying56 rfl rfl rfl (by kernel_rfl) (opn_slice (k:=1) Tryz.underlying28 (by kernel_rfl) (by omega) (opn_byte Tryz.underlying5)) h hw
  have:=Fit.cons 0 1 f1 rfl (Fit.cons 1 2 f3 rfl (Fit.last 2 hl))
  rw [List.drop_zero] at this
  exact ⟨⟨k,n⟩,trivial,this⟩⟩
end Gv
namespace Gv
variable [Glob] [Laid] [Nums] [Errs]
def xPicksT_S : Spec:=fun args K=>∃ (l : LineS) (w : Int) (F : List FileS) (ps os : List Int) (rm : Int),args = [.agg (lineCells l),.int .i64 w,.sl fileV F,.sl intV ps,.sl intV os,.int .i64 rm] ∧ I64 rm ∧ K (.bool true)
theorem xPicksT_ok : Pure Tryz.prog 8 xPicksT_S:=by
  intro w m args us k a1 a2 a3 a4
  obtain ⟨l,n,F,ps,os,rm,rfl,a5,a6⟩:=a4
  exact xPicks_ok w m _ us k a1 a2 a3 ⟨l.frm,l.cmds,l.to,n,F,ps,os,rm,rfl,a5,a6⟩
end Gv
