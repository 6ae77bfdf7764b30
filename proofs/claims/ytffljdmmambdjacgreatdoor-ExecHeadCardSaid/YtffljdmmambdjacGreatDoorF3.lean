/- What functions of the program come to, part 3: in every world; the conditions stand in each theorem. -/
import Derived.Test.YtffljdmmambdjacGreatDoorF2
set_option linter.unusedVariables false
set_option linter.unusedSectionVars false
set_option linter.unusedSimpArgs false
open Go Go.Proofs Gw Gp
namespace Gv
variable [Glob] [Laid] [Nums] [Errs]
def overM (m : MachS) : Bool:=m.p.all fun p=>p.over
end Gv
namespace Gv
variable [Glob] [Laid] [Nums] [Errs]
theorem new_ok {g : List Gp.Node} {f : List FileS} {rm : Int} {r : MachS × Int} (hr : newP g f rm = r) (h0 : r.2 = 0) : checkG g = 0 ∧ checkFiles f = 0 ∧ (1 ≤ rm ∧ rm ≤ 1000) ∧ r = (freshM g f rm,0):=by
  unfold newP at hr
  split at hr
  · rename_i h1
    rw [← hr] at h0
    exact absurd h0 h1
  · rename_i h1
    split at hr
    · rename_i h2
      rw [← hr] at h0
      exact absurd h0 h2
    · rename_i h2
      split at hr
      · rw [← hr] at h0
        exact absurd h0 (show ¬ (3 : Int) = 0 by decide)
      · exact ⟨Decidable.not_not.1 h1,Decidable.not_not.1 h2,by omega,hr.symm⟩
structure Goes (g : List Gp.Node) (f : List FileS) (rm : Int) (v : Bs) : Prop where
  fresh : Ok f g rm (freshM g f rm)
  steps : Steps (Ok f g rm)
  ev : evalG g f = (v,0)
  ck : ∀ m,Ok f g rm m → checkMach m = 0
  pre : ∀ m,Ok f g rm m → m.sunk <+: v
  fin : ∀ m,Ok f g rm m → ∃ n M,FinN n m (M,0) ∧ Ok f g rm M ∧ overM M = true ∧ M.sunk = v
  over : ∀ m,Ok f g rm m → overM m = true → m.sunk = v
  can : ∀ m,Ok f g rm m → overM m = false → ∃ i,i < g.length ∧ (stepM m i).2 = 0
theorem overM_iff {m : MachS} {g : List Gp.Node} (h : m.p.length = g.length) : overM m = true ↔ ∀ i,i < g.length → (pr m i).over = true:=by
  unfold overM
  rw [List.all_eq_true]
  constructor
  · intro h1 i hi
    rw [pr_at (by omega)]
    exact h1 _ (List.getElem_mem (by omega))
  · intro h1 p hp
    obtain ⟨i,hi,rfl⟩:=List.getElem_of_mem hp
    rw [← pr_at hi]
    exact h1 i (by omega)
theorem rnd_over {m : MachS} : ∀ (l : List Nat),(∀ i ∈ l,(pr m i).over = true) → rndGo l (m,true,false) = (m,true,false)
  | [],_=>rfl
  | i :: r,h=>by
    have h1:=h i (by simp)
    have hs : stepM m i = (m,7):=by unfold stepM; rw [if_pos h1]
    rw [rndGo,hs]
    dsimp only
    rw [h1]
    exact rnd_over r fun j hj=>h j (by simp [hj])
theorem goes {g : List Gp.Node} {f : List FileS} {rm : Int} (hg : checkG g = 0) (h4 : cnt 1 g ≤ 4) (hf : checkFiles f = 0) (h1 : 1 ≤ rm ∧ rm ≤ 1000) : Goes g f rm (evalG g f).1:=by
  obtain ⟨e1,e2,e3⟩:=exec_law hg h4 hf h1
  have hfin : ∀ m,Ok f g rm m → ∃ n M,FinN n m (M,0) ∧ Ok f g rm M ∧ overM M = true ∧ M.sunk = (evalG g f).1:=fun m hm=>by
    obtain ⟨-,-,⟨n,M,a,b,c,d⟩,-⟩:=e2 m hm
    exact ⟨n,M,a,b,(overM_iff b.sh.np).2 c,d⟩
  refine ⟨e1,ok_steps hg fun m hm=>(e2 m hm).1,Prod.ext rfl e3,fun m hm=>(e2 m hm).1,fun m hm=>(e2 m hm).2.1,hfin,fun m hm ho=>?_,fun m hm ho=>?_⟩
  · obtain ⟨n,M,a,b,c,d⟩:=hfin m hm
    have ho':=(overM_iff hm.sh.np).1 ho
    have hr : rnd m = (m,true,false):=rnd_over _ fun i hi=>ho' i (by have:=hm.sh.np; have:=List.mem_range.1 hi; omega)
    have hF : FinN 0 m ((rnd m).1,0):=.over (by rw [hr])
    have:=(a.uniq hF).2
    rw [hr] at this
    have : M = m:=congrArg Prod.fst this
    rw [← this,d]
  · refine (e2 m hm).2.2.2 ?_
    have : ¬ overM m = true:=by rw [ho]; decide
    rw [overM_iff hm.sh.np] at this
    rcases Classical.em (∃ i,i < g.length ∧ (pr m i).over = false) with h | h
    · exact h
    · refine absurd (fun i hi=>?_) this
      cases hh : (pr m i).over with
      | true=>rfl
      | false=>exact absurd ⟨i,hi,hh⟩ h
end Gv
namespace Gv
variable [Glob] [Laid] [Nums] [Errs]
theorem runX_ca : callable Tryz.prog 20 = true:=by kernel_rfl
def runX_S : Spec:=fun args K=>∃ (m : MachS) (l : List Int) (I : MachS → Prop),args = [machV m,.sl intV l] ∧ (checkMach m = 0 → copyZ m ∧ I m ∧ Steps I) ∧ K (.tup [machV (runP m l).1,.sl intV (runP m l).2.1,.int .i64 (runP m l).2.2])
noncomputable def runX_lib : List (Nat × Spec):=[(41,checkMX_S)]
noncomputable def runX_fns : List (Nat × FnI):=[(54,{ fn:=Tryz.f54,spec:=some copyG_P }),(55,{ fn:=Tryz.f55,spec:=some stepH_P })]
noncomputable def runX_prims : List (Nat × PSpec):=[]
theorem runX_E : EnvOK ⟨Tryz.prog,tys,runX_lib,runX_fns,runX_prims,[]⟩:=env_ok mixed0 tys0 (.cons checkMX_ca checkMX_ok .nil) (.told copyG_ca rfl copyG_prim (.told stepH_ca rfl stepH_prim .nil)) .nil rfl
set_option maxHeartbeats 16000000 in
theorem runX_ok : Pure Tryz.prog 20 runX_S:=by
  refine pure_by runX_E 6 (fi:={fn:=Tryz.f20,hooks:=[14,16],draws:=[]}) ⟨Tryz.func20,by kernel_rfl,by kernel_rfl⟩ ?_
  rintro _ K ⟨m,l,I,rfl,hI,hK⟩
  replace hK : ∀ r,r = .tup [machV (runP m l).1,.sl intV (runP m l).2.1,.int .i64 (runP m l).2.2] → K r:=fun r h=>h ▸ hK
  skip
  refine ⟨m,rfl,?_⟩
  repeat' first | (refine fun (b : Bool) hb=>?_; cases b <;> (first | exact absurd hb (by decide) | exact Bool.noConfusion (show true = false from hb) | exact Bool.noConfusion (show false = true from hb) | skip)) | (refine fun (hl : _ ≤ MAXL)=>?_) | fail
  rotate_left
  · have h0 : checkMach m = 0:=by simpa using ‹(!decide (checkMach m = 0)) = false›
    have hl : 40000 < l.length:=by
      have h:=of_decide_eq_true (by assumption : decide (40000 < (l.length : Int)) = true)
      omega
    conv=>whnf
    skip
    refine ⟨Gp.Node,nodeV,?_⟩
    refine ⟨FileS,fileV,?_⟩
    refine ⟨PipeS,pipeV,?_⟩
    refine ⟨ProcS,procV,?_⟩
    refine ⟨UInt8,byteV,?_⟩
    refine ⟨Int,intV,?_⟩
    refine hK _ ?_
    unfold runP
    rw [if_neg (by rw [h0]; decide),if_pos hl]
    rfl
  · have h0 : checkMach m ≠ 0:=by simpa using ‹(!decide (checkMach m = 0)) = true›
    conv=>whnf
    skip
    refine ⟨Gp.Node,nodeV,?_⟩
    refine ⟨FileS,fileV,?_⟩
    refine ⟨PipeS,pipeV,?_⟩
    refine ⟨ProcS,procV,?_⟩
    refine ⟨UInt8,byteV,?_⟩
    refine ⟨Int,intV,?_⟩
    refine hK _ ?_
    unfold runP
    rw [if_pos h0]
    rfl
  have h0 : checkMach m = 0:=by simpa using ‹(!decide (checkMach m = 0)) = false›
  have hl : ¬ 40000 < l.length:=by
    have h:=of_decide_eq_false (by assumption : decide (40000 < (l.length : Int)) = false)
    omega
  obtain ⟨hz,hIm,hS⟩:=hI h0
  conv=>whnf
  skip
  refine ⟨m,rfl,hz,fun Q=>?_⟩
  conv=>whnf
  skip
  conv=>whnf
  skip
  refine join_live [2,4] (σ:=Unit) (fun _=>[(8,.own 5)]) (fun _=>[.box [.sl nodeV (runGo l m []).1.g,.sl fileV (runGo l m []).1.f,.own 2,.own 3,.sl byteV (runGo l m []).1.sunk],.box [.nil,.nil,.nil,.nil,.nil],.row 4 ((runGo l m []).1.pipes.map pipeV),.row 5 ((runGo l m []).1.p.map procV),.dead,.row 1 ((runGo l m []).2.map intV)]) (fun _=>True) ?_
  conv=>whnf
  refine ⟨?_,fun _ _=>?_⟩
  · conv=>whnf
    repeat' first | (refine fun (hl : _ ≤ MAXL)=>?_) | fail
    conv=>whnf
    refine loop_live [2,4,24,25] (σ:=Nat × MachS × List Int) (fun s=>[(26,.int .i64 s.1),(8,.own 5)]) (fun s=>[.box [.sl nodeV s.2.1.g,.sl fileV s.2.1.f,.own 2,.own 3,.sl byteV s.2.1.sunk],.box [.nil,.nil,.nil,.nil,.nil],.row 4 (s.2.1.pipes.map pipeV),.row 5 (procEls Q s.2.1.p),.pack Q (subsOf s.2.1.p),.row 1 (s.2.2.map intV)]) (fun s=>s.1 ≤ l.length ∧ runGo (l.take s.1) m [] = s.2 ∧ I s.2.1) (fun s=>l.length - s.1) (0,m,[]) ?_
    conv=>whnf
    refine ⟨(by (refine wk_sel [some 0,some 1,some 2,some 3,some 4,none] rfl rfl ?_ ?_ <;> (repeat' (first | exact True.intro | exact rfl | exact Or.inl rfl | exact Or.inr rfl | refine And.intro ?_ ?_ | fail)))),⟨Nat.zero_le _,rfl,hIm⟩,fun s hs=>?_⟩
    obtain ⟨k,M,sd⟩:=s
    obtain ⟨hk,hgo,hIM⟩:=hs
    dsimp only at hk hgo hIM
    repeat' first | (refine fun (b : Bool) hb=>?_; cases b <;> (first | exact absurd hb (by decide) | exact Bool.noConfusion (show true = false from hb) | exact Bool.noConfusion (show false = true from hb) | skip)) | refine ⟨_,rfl,?_,rfl,?_⟩ | fail
    · have hkl : k = l.length := by
        have h:=of_decide_eq_false (by assumption : decide ((k : Int) < (l.length : Int)) = false)
        omega
      subst hkl
      rw [List.take_length] at hgo
      refine ⟨(),?_,trivial⟩
      rw [hgo]
      exact (wk_pack 3 4 rfl rfl).trans (by (refine wk_sel [some 0,some 1,some 2,some 3,some 4,some 5] rfl rfl ?_ ?_ <;> (repeat' (first | exact True.intro | exact rfl | exact Or.inl rfl | exact Or.inr rfl | refine And.intro ?_ ?_ | fail))))
    · have h:=of_decide_eq_true (by assumption : decide ((k : Int) < (l.length : Int)) = true)
      omega
    have hk2 : k < l.length:=by
      have h:=of_decide_eq_true (by assumption : decide ((k : Int) < (l.length : Int)) = true)
      omega
    have hnx : runGo (l.take (k + 1)) m [] = ((pickM M l[k]).1,sd ++ [(pickM M l[k]).2]):=by
      rw [List.take_succ_eq_append_getElem hk2,runGo_snoc,hgo]
    conv=>whnf
    refine join_live [2,4,8,24,25,26] (σ:=Unit) (fun _=>[(11,.int .i64 (pickM M l[k]).2)]) (fun _=>[.box [.sl nodeV (pickM M l[k]).1.g,.sl fileV (pickM M l[k]).1.f,.own 2,.own 3,.sl byteV (pickM M l[k]).1.sunk],.box [.nil,.nil,.nil,.nil,.nil],.row 4 ((pickM M l[k]).1.pipes.map pipeV),.row 5 (procEls Q (pickM M l[k]).1.p),.pack Q (subsOf (pickM M l[k]).1.p),.row 1 (sd.map intV)]) (fun _=>True) ?_
    conv=>whnf
    refine ⟨?_,fun _ _=>?_⟩
    · have hout : ¬ (0 ≤ l[k] ∧ l[k] < (M.p.length : Int)) → pickM M l[k] = (M,5):=fun h=>by unfold pickM; rw [if_neg h]
      conv=>whnf
      repeat' first | (refine fun (b : Bool) hb=>?_; cases b <;> (first | exact absurd hb (by decide) | exact Bool.noConfusion (show true = false from hb) | exact Bool.noConfusion (show false = true from hb) | skip)) | (refine fun (hl : _ ≤ MAXL)=>?_) | fail
      · have hp:=hout (fun h=>of_decide_eq_false (by assumption : decide (0 ≤ l[k]) = false) h.1)
        conv=>whnf
        skip
        rw [hp]
        exact ⟨(),(by (refine wk_sel [some 0,some 1,some 2,some 3,some 4,some 5] rfl rfl ?_ ?_ <;> (repeat' (first | exact True.intro | exact rfl | exact Or.inl rfl | exact Or.inr rfl | refine And.intro ?_ ?_ | fail)))),trivial⟩
      · have hp := hout (fun h => by
          have h2:=of_decide_eq_false (by assumption : decide (l[k] < ((procEls Q M.p).length : Int)) = false)
          rw [procEls_len] at h2
          exact h2 h.2)
        conv=>whnf
        skip
        rw [hp]
        exact ⟨(),(by (refine wk_sel [some 0,some 1,some 2,some 3,some 4,some 5] rfl rfl ?_ ?_ <;> (repeat' (first | exact True.intro | exact rfl | exact Or.inl rfl | exact Or.inr rfl | refine And.intro ?_ ?_ | fail)))),trivial⟩
      · have h1:=of_decide_eq_true (by assumption : decide (0 ≤ l[k]) = true)
        have h2:=of_decide_eq_true (by assumption : decide (l[k] < ((procEls Q M.p).length : Int)) = true)
        rw [procEls_len] at h2
        obtain ⟨i,hi⟩ : ∃ i : Nat,l[k] = i:=⟨l[k].toNat,by omega⟩
        have hiM : i < M.p.length:=by omega
        have hp : pickM M l[k] = stepM M i:=by
          unfold pickM
          rw [if_pos ⟨h1,h2⟩,hi]
          rfl
        obtain ⟨hF,hZ,-⟩:=hS M hIM i hiM
        conv=>whnf
        skip
        refine ⟨M,i,0,2,3,4,Q,?_,rfl,rfl,rfl,rfl,hF,hZ,?_⟩
        · show [V.ptr 0 0 0,V.int .i64 l[k]] = _
          rw [hi]
        conv=>whnf
        skip
        rw [hp]
        exact ⟨(),(by (refine wk_sel [some 0,some 1,some 2,some 3,some 4,some 5] rfl rfl ?_ ?_ <;> (repeat' (first | exact True.intro | exact rfl | exact Or.inl rfl | exact Or.inr rfl | refine And.intro ?_ ?_ | fail)))),trivial⟩
    have hIn : I (pickM M l[k]).1:=by
      unfold pickM
      split
      · rename_i h
        exact (hS M hIM _ (by omega)).2.2
      · exact hIM
    have hsl : sd.length = k:=by
      have:=runGo_len (l.take k) m []
      rw [hgo,List.length_take] at this
      simp at this
      omega
    conv=>whnf
    repeat' first | refine And.intro (a:=I64 _) ?_ ?_ | refine And.intro (a:=_ ≤ 140737488355328) ?_ ?_ | refine ⟨rfl,?_⟩ | fail
    · show ((sd.map intV).length + 1) * 8 ≤ 140737488355328
      rw [List.length_map]
      omega
    · show I64 ((k : Int) + 1)
      unfold I64; omega
    refine ⟨(k + 1,(pickM M l[k]).1,sd ++ [(pickM M l[k]).2]),?_,⟨hk2,hnx,hIn⟩,by show l.length - (k + 1) < l.length - k; omega⟩
    show Wk _ _ _ _ [.box [.sl nodeV (pickM M l[k]).1.g,.sl fileV (pickM M l[k]).1.f,.own 2,.own 3,.sl byteV (pickM M l[k]).1.sunk],.box [.nil,.nil,.nil,.nil,.nil],.row 4 ((pickM M l[k]).1.pipes.map pipeV),.row 5 (procEls Q (pickM M l[k]).1.p),.pack Q (subsOf (pickM M l[k]).1.p),.row 1 ((sd ++ [(pickM M l[k]).2]).map intV)]
    rw [List.map_append]
    exact (by (refine wk_sel [some 0,some 1,some 2,some 3,some 4,some 7] rfl rfl ?_ ?_ <;> (repeat' (first | exact True.intro | exact rfl | exact Or.inl rfl | exact Or.inr rfl | refine And.intro ?_ ?_ | fail))))
  conv=>whnf
  repeat' first | refine ⟨_,_,_,LeL.refl _,?_⟩ | fail
  conv=>whnf
  refine hK _ ?_
  unfold runP
  rw [if_neg (by rw [h0]; decide),if_neg hl]
  rfl
end Gv
namespace Gv
variable [Glob] [Laid] [Nums] [Errs]
theorem makeG_ca : callable Tryz.prog 67 = true:=by kernel_rfl
def makeG_S : Spec:=fun args K=>∃ (n : Gp.Node) (f : List FileS) (ins : List Bs),args = [nodeV n,.sl fileV f,.sl blV ins] ∧ (checkN n = 0 ∧ n.ins.length = ins.length ∧ ins.flatten.length ≤ 500000 ∧ ∀ x ∈ f,x.b.length ≤ 4000) ∧ K (.sl blV (makeN n f ins))
noncomputable def makeG_lib : List (Nat × Spec):=[(77,bytesF_S),(90,linesL_S),(93,put_S),(129,splitLines_S),(91,linesC_S),(130,joinL_S)]
noncomputable def makeG_fns : List (Nat × FnI):=[]
noncomputable def makeG_prims : List (Nat × PSpec):=[]
theorem makeG_E : EnvOK ⟨Tryz.prog,tys,makeG_lib,makeG_fns,makeG_prims,[]⟩:=env_ok mixed0 tys0 (.cons bytesF_ca bytesF_ok (.cons linesL_ca linesL_ok (.cons put_ca put_ok (.cons splitLines_ca splitLines_ok (.cons linesC_ca linesC_ok (.cons joinL_ca joinL_ok .nil)))))) .nil .nil rfl
set_option maxHeartbeats 8000000 in
theorem makeG_ok : Pure Tryz.prog 67 makeG_S:=by
  refine pure_by makeG_E 6 (fi:={fn:=Tryz.f67,hooks:=[],draws:=[(5,[0,1,3,7,0,16,63,127]),(7,[0,1,0,4,12,28,63,127,255,511])]}) ⟨Tryz.func67,by kernel_rfl,by kernel_rfl⟩ ?_
  rintro _ K ⟨n,f,ins,rfl,⟨hn,hil,hfl,hf⟩,hK⟩
  replace hK : ∀ r,r = .sl blV (makeN n f ins) → K r:=fun r h=>h ▸ hK
  unfold makeN at hK
  have hshp:=checkN_shape hn
  have hfa:=fileAt_len hf n.file
  have hpf:=put_lines (fileAt f n.file)
  have hb0:=getD_flat ins 0
  have hg0 : ∀ h : 0 < ins.length,ins.getD 0 [] = ins[0]:=fun h=>by rw [List.getD_eq_getElem?_getD,List.getElem?_eq_getElem h]; rfl
  have hp1:=put_lines (ins.getD 0 [])
  have hl1:=linesOf_len (ins.getD 0 [])
  have hel:=linesOf_el (ins.getD 0 [])
  repeat' first | exact True.intro | (refine fun (b : Bool) hb=>?_; cases b <;> (first | exact absurd hb (by decide) | exact Bool.noConfusion (show true = false from hb) | exact Bool.noConfusion (show false = true from hb) | skip)) | (refine fun (hl : _ ≤ MAXL)=>?_) | refine ⟨_,⟨rfl,rfl⟩,?_⟩ | refine And.intro (a:=chkPast _ _ _ _ _ _ _ _) ?_ ?_ | refine ⟨_,⟨_,rfl,?_,rfl,rfl,rfl⟩,?_⟩ | fail
  · have k1 : ¬ n.kind = 1:=of_decide_eq_false (by assumption)
    have k2 : ¬ n.kind = 2:=of_decide_eq_false (by assumption)
    have k3 : ¬ n.kind = 3:=of_decide_eq_false (by assumption)
    have k4 : ¬ n.kind = 4:=of_decide_eq_false (by assumption)
    rw [if_neg k1,if_neg k2,if_neg k3,if_neg k4] at hK
    conv=>whnf
    exact ⟨Bs,blV,hK _ rfl⟩
  · have k4 : n.kind = 4:=of_decide_eq_true (by assumption)
    rw [if_neg (by omega),if_neg (by omega),if_neg (by omega),if_pos k4] at hK
    conv=>whnf
    refine loop_live [3,43,44] (σ:=Nat × List (List Bs)) (fun s=>[(45,.int .i64 s.1),(7,.own 1)]) (fun s=>[.box (nodeV n).cells,.row 1 (s.2.map lsV)]) (fun s=>s.1 ≤ ins.length ∧ s.2 = (ins.take s.1).map linesOf) (fun s=>ins.length - s.1) (0,[]) ?_
    conv=>whnf
    refine ⟨(by (refine wk_auto ?_; refine Sel4.mk rfl rfl ?_ ?_ <;> (repeat' (first | exact True.intro | exact rfl | exact Or.inl rfl | exact Or.inr rfl | refine And.intro ?_ ?_ | fail)))),⟨Nat.zero_le _,by simp⟩,fun s hs=>?_⟩
    obtain ⟨i,ls⟩:=s
    obtain ⟨hi,hls⟩:=hs
    dsimp only at hi hls
    repeat' first | refine ⟨_,_,_,LeL.refl _,?_⟩ | (refine fun (b : Bool) hb=>?_; cases b <;> (first | exact absurd hb (by decide) | exact Bool.noConfusion (show true = false from hb) | exact Bool.noConfusion (show false = true from hb) | skip)) | refine And.intro (a:=I64 _) ?_ ?_ | refine And.intro (a:=_ ≤ 140737488355328) ?_ ?_ | refine ⟨_,rfl,?_,rfl,?_⟩ | fail
    · have hge : ¬ (i : Int) < (ins.length : Int):=of_decide_eq_false (by assumption)
      rw [List.take_of_length_le (by omega)] at hls
      subst hls
      have hpf2:=put_flat ins
      have hpl:=put_len (l:=(ins.map linesOf).flatten) (n:=600000) (by omega)
      have hjc : checkJoin n.how n.c = 0:=by
        rcases hshp with h | h | h | h | h
        · omega
        · omega
        · omega
        · exact h.2.2.2
        · omega
      have hjp:=joinB_put9 (checkJoin_four hjc).1 (ins.map linesOf) (by rw [List.length_map]; omega) (by omega)
      conv=>whnf
      refine ⟨n.how,n.c,ins.map linesOf,rfl,⟨(checkJoin_four hjc).1,by rw [List.length_map]; omega,by omega,fun l hl s hsl=>?_⟩,?_⟩
      · have:=put_el (List.mem_flatten.2 ⟨l,hl,hsl⟩)
        omega
      refine ⟨joinB n.how n.c (ins.map linesOf),rfl,by omega,?_⟩
      conv=>whnf
      refine ⟨Bs,blV,[put (joinB n.how n.c (ins.map linesOf))],LeL.refl _,?_⟩
      exact hK _ rfl
    all_goals have hlt : i < ins.length:=by (have h:=of_decide_eq_true (by assumption : decide ((i : Int) < (ins.length : Int)) = true); omega)
    · exact hlt
    · have:=el_flat (List.getElem_mem hlt)
      show ins[i].length ≤ 1000000
      omega
    · show ((ls.map lsV).length + 1) * 24 ≤ 140737488355328
      rw [List.length_map,hls,List.length_map,List.length_take]
      omega
    · unfold I64; (try dsimp only); omega
    refine ⟨(i + 1,ls ++ [linesOf ins[i]]),?_,⟨hlt,?_⟩,by show ins.length - (i + 1) < ins.length - i; omega⟩
    · (refine wk_auto ?_; refine Sel4.mk rfl rfl ?_ ?_ <;> (repeat' (first | exact True.intro | exact rfl | exact Or.inl rfl | exact Or.inr rfl | refine And.intro ?_ ?_ | fail)))
      show Row.row 1 _ = Row.row 1 _
      rw [List.map_append]
      rfl
    · show ls ++ [linesOf ins[i]] = (ins.take (i + 1)).map linesOf
      rw [List.take_succ_eq_append_getElem hlt,List.map_append,hls]
      rfl
  · have k3 : n.kind = 3:=of_decide_eq_true (by assumption)
    show 0 < ins.length
    omega
  · have k3 : n.kind = 3:=of_decide_eq_true (by assumption)
    have h0 : 0 < ins.length:=by omega
    have hc : checkCmd n.c = 0:=by
      rcases hshp with h | h | h | h | h
      · omega
      · omega
      · exact h.2.2
      · omega
      · omega
    rw [if_neg (by omega),if_neg (by omega),if_pos k3] at hK
    rw [hg0 h0] at hb0 hp1 hl1 hel hK
    have hlp:=linesC_put9 hc (linesOf ins[0]) (by omega)
    apply Exists.intro
    apply And.intro
    · refine ⟨ins[0],rfl,by omega,?_⟩
      exact ⟨rfl,rfl⟩
    skip
    apply Exists.intro
    apply And.intro
    · refine ⟨n.c,linesOf ins[0],rfl,⟨hc,by omega,fun s hs=>by have:=hel s hs; omega⟩,?_⟩
      exact ⟨rfl,rfl⟩
    skip
    apply Exists.intro
    apply And.intro
    · refine ⟨linesC n.c (linesOf ins[0]),rfl,by omega,?_⟩
      exact ⟨rfl,rfl⟩
    skip
    refine ⟨_,⟨Bs,blV,[put (linesC n.c (linesOf ins[0]))],LeL.refl _,rfl,rfl⟩,?_⟩
    repeat' first | refine ⟨_,⟨rfl,rfl⟩,?_⟩ | fail
    conv=>whnf
    exact hK _ rfl
  · have k2 : n.kind = 2:=of_decide_eq_true (by assumption)
    show 0 < ins.length
    omega
  · have k2 : n.kind = 2:=of_decide_eq_true (by assumption)
    have h0 : 0 < ins.length:=by omega
    obtain ⟨w,hw⟩ : ∃ w : Nat,n.wide = w:=⟨n.wide.toNat,by omega⟩
    rw [if_neg (by omega),if_pos k2] at hK
    rw [hg0 h0] at hb0 hp1 hl1 hel hK
    rw [hw,Int.toNat_natCast] at hK
    apply Exists.intro
    apply And.intro
    · refine ⟨ins[0],rfl,by omega,?_⟩
      exact ⟨rfl,rfl⟩
    repeat' first | exact True.intro | refine ⟨_,⟨rfl,rfl⟩,?_⟩ | refine And.intro (a:=chkPast _ _ _ _ _ _ _ _) ?_ ?_ | fail
    apply Exists.intro
    apply And.intro
    · refine ⟨linesOf ins[0],w,by rw [hw],⟨by omega,by omega,by omega⟩,?_⟩
      exact ⟨rfl,rfl⟩
    repeat' first | refine ⟨_,⟨rfl,rfl⟩,?_⟩ | fail
    conv=>whnf
    exact hK _ rfl
  · have k1 : n.kind = 1:=of_decide_eq_true (by assumption)
    rw [if_pos k1] at hK
    conv=>whnf
    refine ⟨f,n.file,rfl,fun x hx=>by have:=hf x hx; omega,?_⟩
    refine ⟨fileAt f n.file,rfl,by omega,?_⟩
    refine ⟨linesOf (fileAt f n.file),rfl,by omega,?_⟩
    skip
    conv=>whnf
    refine ⟨Bs,blV,[put (linesOf (fileAt f n.file))],LeL.refl _,?_⟩
    exact hK _ rfl
end Gv
namespace Gv
variable [Glob] [Laid] [Nums] [Errs]
def llV (l : List Bs) : V:=.sl blV l
theorem evalG_ca : callable Tryz.prog 23 = true:=by kernel_rfl
def evalG_S : Spec:=fun args K=>∃ (N : List Gp.Node) (f : List FileS),args = [.agg [.sl nodeV N],.sl fileV f] ∧ K (.tup [.sl byteV (evalG N f).1,.int .i64 (evalG N f).2])
noncomputable def evalG_lib : List (Nat × Spec):=[(62,checkG_S),(32,cfiles_S),(67,makeG_S),(66,cloneB_S)]
noncomputable def evalG_fns : List (Nat × FnI):=[]
noncomputable def evalG_prims : List (Nat × PSpec):=[]
theorem evalG_E : EnvOK ⟨Tryz.prog,tys,evalG_lib,evalG_fns,evalG_prims,[]⟩:=env_ok mixed0 tys0 (.cons checkG_ca checkG_ok (.cons cfiles_ca cfiles_ok (.cons makeG_ca makeG_ok (.cons cloneB_ca cloneB_ok .nil)))) .nil .nil rfl
set_option maxHeartbeats 16000000 in
theorem evalG_ok : Pure Tryz.prog 23 evalG_S:=by
  refine pure_by evalG_E 6 (fi:={fn:=Tryz.f23,hooks:=[],draws:=[(15,[0,0,0,4,14,30,0,64,254,510,1022,2047,4095])]}) ⟨Tryz.func23,by kernel_rfl,by kernel_rfl⟩ ?_
  rintro _ K ⟨N,f,rfl,hK⟩
  replace hK : ∀ r,r = .tup [.sl byteV (evalG N f).1,.int .i64 (evalG N f).2] → K r:=fun r h=>h ▸ hK
  refine ⟨N,rfl,?_⟩
  have hev : evalG N f = if checkG N ≠ 0 then ([],checkG N) else if checkFiles f ≠ 0 then ([],checkFiles f) else evalGo f N []:=rfl
  repeat' first | (refine fun (b : Bool) hb=>?_; cases b <;> (first | exact absurd hb (by decide) | exact Bool.noConfusion (show true = false from hb) | exact Bool.noConfusion (show false = true from hb) | skip)) | fail
  rotate_left
  · have h0 : ¬ checkG N = 0:=by simpa using (by assumption : (!decide (checkG N = 0)) = true)
    rw [hev,if_pos h0] at hK
    conv=>whnf
    exact ⟨_,byteV,hK _ rfl⟩
  have hcg : checkG N = 0:=by simpa using (by assumption : (!decide (checkG N = 0)) = false)
  rw [hev,if_neg (fun h=>h hcg)] at hK
  conv=>whnf
  refine ⟨f,rfl,?_⟩
  repeat' first | (refine fun (b : Bool) hb=>?_; cases b <;> (first | exact absurd hb (by decide) | exact Bool.noConfusion (show true = false from hb) | exact Bool.noConfusion (show false = true from hb) | skip)) | (refine fun (hl : _ ≤ MAXL)=>?_) | fail
  rotate_left
  · have h0 : ¬ checkFiles f = 0:=by simpa using (by assumption : (!decide (checkFiles f = 0)) = true)
    rw [if_pos h0] at hK
    conv=>whnf
    exact ⟨_,byteV,hK _ rfl⟩
  have hcf : checkFiles f = 0:=by simpa using (by assumption : (!decide (checkFiles f = 0)) = false)
  rw [if_neg (fun h=>h hcf)] at hK
  obtain ⟨hU0,h60⟩:=upto_0 hcg
  have hff : ∀ x ∈ f,x.b.length ≤ 4000:=fun x hx=>((checkFiles_ok hcf).2 x hx).2
  conv=>whnf
  refine loop_live [1,25,26] (σ:=List (List Bs)) (fun s=>[(27,.int .i64 (s.length : Nat)),(8,.own 1)]) (fun s=>[.box [.sl nodeV N],.row 1 (s.map llV)]) (fun s=>s.length ≤ N.length ∧ Upto N s ∧ evalGo f (N.drop s.length) s = evalGo f N []) (fun s=>N.length - s.length) [] ?_
  conv=>whnf
  refine ⟨(by (refine wk_auto ?_; refine Sel4.mk rfl rfl ?_ ?_ <;> (repeat' (first | exact True.intro | exact rfl | exact Or.inl rfl | exact Or.inr rfl | refine And.intro ?_ ?_ | fail)))),⟨Nat.zero_le _,hU0,rfl⟩,fun out hs=>?_⟩
  obtain ⟨hi,hU,hgo⟩:=hs
  repeat' first | (refine fun (b : Bool) hb=>?_; cases b <;> (first | exact absurd hb (by decide) | exact Bool.noConfusion (show true = false from hb) | exact Bool.noConfusion (show false = true from hb) | skip)) | (refine fun (hl : _ ≤ MAXL)=>?_) | refine ⟨_,rfl,?_,rfl,?_⟩ | fail
  · have hge : ¬ (out.length : Int) < (N.length : Int):=of_decide_eq_false (by assumption)
    rw [List.drop_eq_nil_of_le (by omega)] at hgo
    have hgo : evalGo f N [] = ([],4):=hgo.symm
    rw [hgo] at hK
    conv=>whnf
    exact ⟨_,byteV,hK _ rfl⟩
  · have h : (out.length : Int) < (N.length : Int):=of_decide_eq_true (by assumption)
    omega
  have hlt : out.length < N.length:=by
    have h : (out.length : Int) < (N.length : Int):=of_decide_eq_true (by assumption)
    omega
  obtain ⟨hcn,hfl,hpo,hk5,hUn⟩:=upto_node hU h60 hlt
  have hstep : evalGo f (N.drop out.length) out = if N[out.length].kind = 5 then ((insOf out N[out.length].ins).getD 0 [],0) else evalGo f (N.drop (out.length + 1)) (out ++ [makeN N[out.length] f (insOf out N[out.length].ins)]):=by
    rw [List.drop_eq_getElem_cons hlt,evalGo]
  rw [hstep] at hgo
  have hil:=checkN_shape hcn
  conv=>whnf
  refine loop_live [1,8,10,25,26,27,32,33] (σ:=Nat × List Bs) (fun s=>[(34,.int .i64 s.1),(11,.own 3)]) (fun s=>[.box [.sl nodeV N],.row 1 (out.map llV),.box (nodeV N[out.length]).cells,.row 1 (s.2.map blV)]) (fun s=>s.1 ≤ N[out.length].ins.length ∧ s.2 = insOf out (N[out.length].ins.take s.1)) (fun s=>N[out.length].ins.length - s.1) (0,[]) ?_
  conv=>whnf
  refine ⟨(by (refine wk_auto ?_; refine Sel4.mk rfl rfl ?_ ?_ <;> (repeat' (first | exact True.intro | exact rfl | exact Or.inl rfl | exact Or.inr rfl | refine And.intro ?_ ?_ | fail)))),⟨Nat.zero_le _,by simp [insOf]⟩,fun s hs=>?_⟩
  obtain ⟨j,ins⟩:=s
  obtain ⟨hj,hin⟩:=hs
  dsimp only at hj hin
  repeat' first | exact True.intro | refine ⟨_,_,_,LeL.refl _,?_⟩ | (refine fun (b : Bool) hb=>?_; cases b <;> (first | exact absurd hb (by decide) | exact Bool.noConfusion (show true = false from hb) | exact Bool.noConfusion (show false = true from hb) | skip)) | refine ⟨_,⟨rfl,rfl⟩,?_⟩ | refine And.intro (a:=chkPast _ _ _ _ _ _ _ _) ?_ ?_ | refine ⟨_,rfl,?_,rfl,?_⟩ | refine ⟨rfl,?_⟩ | fail
  · have hge : ¬ (j : Int) < (N[out.length].ins.length : Int):=of_decide_eq_false (by assumption)
    have h5 : ¬ N[out.length].kind = 5:=of_decide_eq_false (by assumption)
    rw [List.take_of_length_le (by omega)] at hin
    rw [if_neg h5,← hin] at hgo
    have hUf:=hUn f hff
    rw [← hin] at hUf hfl
    have hlen : N[out.length].ins.length = ins.length:=by rw [hin]; simp [insOf]
    conv=>whnf
    refine ⟨N[out.length],f,ins,rfl,⟨hcn,hlen,by omega,hff⟩,?_⟩
    repeat' first | refine And.intro (a:=I64 _) ?_ ?_ | refine And.intro (a:=_ ≤ 140737488355328) ?_ ?_ | refine ⟨rfl,?_⟩ | fail
    · show ((out.map llV).length + 1) * 24 ≤ 140737488355328
      rw [List.length_map]
      omega
    · unfold I64; omega
    conv=>whnf
    refine ⟨out ++ [makeN N[out.length] f ins],?_,⟨?_,hUf,?_⟩,?_⟩
    · have e1 : (((out ++ [makeN N[out.length] f ins]).length : Nat) : Int) = (out.length : Int) + 1:=by simp
      rw [e1]
      (refine wk_auto ?_; refine Sel4.mk rfl rfl ?_ ?_ <;> (repeat' (first | exact True.intro | exact rfl | exact Or.inl rfl | exact Or.inr rfl | refine And.intro ?_ ?_ | fail)))
      show Row.row 1 _ = Row.row 1 _
      rw [List.map_append]
      rfl
    · rw [List.length_append,List.length_singleton]; exact hlt
    · rw [List.length_append,List.length_singleton]; exact hgo
    · rw [List.length_append,List.length_singleton]; omega
  · have hge : ¬ (j : Int) < (N[out.length].ins.length : Int):=of_decide_eq_false (by assumption)
    have h5 : N[out.length].kind = 5:=of_decide_eq_true (by assumption)
    rw [List.take_of_length_le (by omega)] at hin
    rw [if_pos h5,← hin] at hgo
    rw [← hgo] at hK
    rw [← hin] at hfl
    have hlen : N[out.length].ins.length = ins.length:=by rw [hin]; simp [insOf]
    have h0 : 0 < ins.length:=by omega
    have hg0 : (ins.map blV)[0]? = some (blV ins[0]):=by rw [List.getElem?_map,List.getElem?_eq_getElem h0]; rfl
    have he:=el_flat (List.getElem_mem h0)
    refine ⟨0,rfl,by rw [List.length_map]; exact h0,?_⟩
    conv=>whnf
    refine ⟨_,hg0,?_⟩
    refine ⟨ins[0],rfl,by omega,?_⟩
    skip
    conv=>whnf
    refine hK _ ?_
    rw [List.getD_eq_getElem?_getD,List.getElem?_eq_getElem h0]
    rfl
  · have h : (j : Int) < (N[out.length].ins.length : Int):=of_decide_eq_true (by assumption)
    show j < N[out.length].ins.length
    omega
  have hjl : j < N[out.length].ins.length:=by
    have h : (j : Int) < (N[out.length].ins.length : Int):=of_decide_eq_true (by assumption)
    omega
  obtain ⟨k,o,hk,ho,hko,hol⟩:=hpo _ (List.getElem_mem hjl)
  have hgk : (out.map llV)[k]? = some (llV out[k]):=by rw [List.getElem?_map,List.getElem?_eq_getElem hko]; rfl
  have hpa : portAt out N[out.length].ins[j] = out[k][o]:=by
    unfold portAt
    rw [hk,ho,Int.toNat_natCast,Int.toNat_natCast,List.getD_eq_getElem?_getD,List.getD_eq_getElem?_getD,List.getElem?_eq_getElem hko]
    show (out[k][o]?).getD [] = _
    rw [List.getElem?_eq_getElem hol]
    rfl
  conv=>whnf
  refine ⟨_,⟨rfl,k,hk,by rw [List.length_map]; exact hko,⟨rfl,rfl⟩⟩,?_⟩
  repeat' first | exact True.intro | refine And.intro (a:=chkPast _ _ _ _ _ _ _ _) ?_ ?_ | fail
  conv=>whnf
  refine ⟨_,⟨_,hgk,⟨rfl,rfl⟩⟩,?_⟩
  repeat' first | exact True.intro | refine ⟨_,⟨rfl,rfl⟩,?_⟩ | refine And.intro (a:=chkPast _ _ _ _ _ _ _ _) ?_ ?_ | fail
  conv=>whnf
  refine ⟨_,⟨o,ho,hol,rfl,rfl,rfl⟩,?_⟩
  repeat' first | refine ⟨_,⟨rfl,rfl⟩,?_⟩ | fail
  conv=>whnf
  refine ⟨_,⟨Bs,blV,[out[k][o]],LeL.refl _,rfl,rfl⟩,?_⟩
  refine ⟨_,_,⟨fun _=>rfl,?_,rfl,rfl⟩,?_⟩
  · show ((ins.map blV).length + ([out[k][o]].map blV).length) * 24 ≤ 140737488355328
    rw [List.length_map,List.length_map,List.length_singleton,hin]
    have h2 : (insOf out (N[out.length].ins.take j)).length ≤ N[out.length].ins.length:=by
      unfold insOf
      rw [List.length_map,List.length_take]
      omega
    omega
  repeat' first | exact True.intro | refine And.intro (a:=I64 _) ?_ ?_ | refine ⟨_,⟨rfl,rfl⟩,?_⟩ | refine And.intro (a:=chkPend _ _ _ _ _ _) ?_ ?_ | fail
  · unfold I64; (try dsimp only); omega
  conv=>whnf
  refine ⟨(j + 1,ins ++ [out[k][o]]),?_,⟨hjl,?_⟩,by show N[out.length].ins.length - (j + 1) < N[out.length].ins.length - j; omega⟩
  · (refine wk_auto ?_; refine Sel4.mk rfl rfl ?_ ?_ <;> (repeat' (first | exact True.intro | exact rfl | exact Or.inl rfl | exact Or.inr rfl | refine And.intro ?_ ?_ | fail)))
    show Row.row 1 _ = Row.row 1 _
    rw [List.map_append]
  · show ins ++ [out[k][o]] = insOf out (N[out.length].ins.take (j + 1))
    rw [List.take_succ_eq_append_getElem hjl,hin]
    unfold insOf
    rw [List.map_append,List.map_singleton,hpa]
end Gv
namespace Gv
variable [Glob] [Laid]
theorem equalB_ca : callable Tryz.prog 18 = true:=by kernel_rfl
def equalB_S : Spec:=fun args K=>∃ a b : List UInt8,args = [.sl byteV a,.sl byteV b] ∧ K (.bool (decide (a = b)))
noncomputable def equalB_lib : List (Nat × Spec):=[]
noncomputable def equalB_fns : List (Nat × FnI):=[]
noncomputable def equalB_prims : List (Nat × PSpec):=[]
theorem equalB_E : EnvOK ⟨Tryz.prog,tys,equalB_lib,equalB_fns,equalB_prims,[]⟩:=env_ok mixed0 tys0 .nil .nil .nil rfl
set_option maxHeartbeats 4000000 in
theorem equalB_ok : Pure Tryz.prog 18 equalB_S:=by
  refine pure_by equalB_E 6 (fi:={fn:=Tryz.f18,hooks:=[],draws:=[(6,[0,0,3,7,0,0,48,112,255])]}) ⟨Tryz.func18,by kernel_rfl,by kernel_rfl⟩ ?_
  rintro _ K ⟨x,y,rfl,hK⟩
  replace hK : ∀ r,r = .bool (decide (x = y)) → K r:=fun r h=>h ▸ hK
  repeat' first | (refine fun (b : Bool) hb=>?_; cases b <;> (first | exact absurd hb (by decide) | exact Bool.noConfusion (show true = false from hb) | exact Bool.noConfusion (show false = true from hb) | skip)) | (refine fun (hl : _ ≤ MAXL)=>?_) | fail
  rotate_left
  · refine hK _ ?_
    congr 1
    grind
  conv=>whnf
  refine loop_intro (σ:=Nat) (fun i=>[(0,.sl byteV x),(1,.sl byteV y),(12,.int .i64 x.length),(13,.int .i64 i),(4,.lit false)]) (fun _=>[]) (fun i=>i ≤ x.length ∧ x.take i = y.take i) (fun i=>x.length - i) 0 (wk_sel [] rfl rfl trivial ?_) ⟨Nat.zero_le _,rfl⟩ ?_
  · (repeat' (first | exact True.intro | exact rfl | exact Or.inl rfl | exact Or.inr rfl | refine And.intro ?_ ?_ | fail))
  intro i ⟨hi,hI⟩
  repeat' first | (refine fun (b : Bool) hb=>?_; cases b <;> (first | exact absurd hb (by decide) | exact Bool.noConfusion (show true = false from hb) | exact Bool.noConfusion (show false = true from hb) | skip)) | refine And.intro (a:=I64 _) ?_ ?_ | refine ⟨_,⟨rfl,rfl⟩,?_⟩ | refine ⟨_,⟨_,rfl,?_,rfl,rfl,rfl⟩,?_⟩ | fail
  · refine hK _ ?_
    congr 1
    have e : x = y:=by
      have h1 : x.take i = x:=List.take_of_length_le (by grind)
      have h2 : y.take i = y:=List.take_of_length_le (by grind)
      rw [← h1,← h2,hI]
    simp [e]
  · grind
  · grind
  · unfold I64; grind
  · refine ⟨i + 1,?_,⟨?_,?_⟩,?_⟩
    · refine wk_sel [] rfl rfl trivial ?_
      (repeat' (first | exact True.intro | exact rfl | exact Or.inl rfl | exact Or.inr rfl | refine And.intro ?_ ?_ | fail))
    · grind
    · have g1 : i < x.length:=by grind
      have g2 : i < y.length:=by grind
      rw [List.take_succ_eq_append_getElem g1,List.take_succ_eq_append_getElem g2,hI]
      have e : x[i].toNat = y[i].toNat:=by grind
      rw [UInt8.toNat_inj.1 e]
    · grind
  · refine hK _ ?_
    congr 1
    grind
end Gv
namespace Gv
variable [Glob] [Laid] [Nums] [Errs]
def headN (n : Int) : List Gp.Node:=[srcN [97],workN ⟨5,[],0⟩ [⟨0,0⟩],workN ⟨9,[],n⟩ [⟨1,0⟩],sinkN [98] [⟨2,0⟩]]
theorem head_step {n : Int} {f : List FileS} {rm : Int} {M : MachS} (hO : Ok f (headN n) rm M) (R : Right M) (hc : checkMach M = 0) (h2 : (qu M 1).shut = true) (h3 : outK M 1 0 ≠ []) (h4 : (qu M 1).closed = false) :
    stepP M 1 = (doW M 1 0,0) ∧ outK (doW M 1 0) 1 0 = [] ∧ (qu (doW M 1 0) 1).b = [] ∧ (doW M 1 0).p.length = 4 ∧ (doW M 1 0).pipes.length = 3 ∧ (pr (doW M 1 0) 1).out.length = 1:=by
  have hpl : M.p.length = 4:=hO.sh.np
  have hql : M.pipes.length = 3:=hO.sh.nq
  have hmg:=hO.sh.mg
  have hol : (pr M 1).out.length = 1:=hO.sh.out 1 (by show 1 < 4; omega)
  have hr : rdr M 1 0 = 1:=by
    unfold rdr
    rw [hmg]
    rfl
  have hq : checkPipe (qu M 1) = 0:=by
    unfold qu
    rw [List.getD_eq_getElem?_getD,List.getElem?_eq_getElem (by omega)]
    exact R.q _ (List.getElem_mem _)
  have hov : (pr M 1).over = false:=by
    obtain ⟨c,e,I⟩:=hO
    cases h : (pr M 1).over with
    | false=>rfl
    | true=>exact absurd (((I.pi 1 (by show 1 < 4; omega)).ov h).2 0) h3
  have htk : takeN (qu M 1) (outK M 1 0) = (outK M 1 0).length:=by unfold takeN; rw [if_pos h2]
  have hcan : canW M 1 0 = true:=by
    unfold canW
    rw [hr,hq,h4,htk]
    have:=List.length_pos_iff.2 h3
    simp [h3,this]
  have hst:=step_write hov (by omega) hcan (fun j hj=>by omega)
  have hqb : (qu M 1).b = []:=by
    unfold checkPipe at hq
    split at hq
    · cases hq
    · split at hq
      · cases hq
      · split at hq
        · cases hq
        · rename_i h
          exact Decidable.not_not.1 fun h5=>h ⟨h2,h5⟩
  have hp1 : pr (doW M 1 0) 1 = setOut (pr M 1) 0 ((outK M 1 0).drop (takeN (qu M 1) (outK M 1 0))):=by
    unfold doW
    rw [hr,pr_setP (by show 1 < M.p.length; omega),if_pos rfl]
  refine ⟨?_,?_,?_,?_,?_,?_⟩
  · unfold stepP
    rw [hc,if_neg (by decide),if_neg (by omega),show (1 : Int).toNat = 1 from rfl,hst]
    rfl
  · unfold outK
    rw [hp1,htk]
    show ((pr M 1).out.set 0 ((outK M 1 0).drop (outK M 1 0).length)).getD 0 [] = []
    rw [List.drop_length,getD_set]
    split
    · rfl
    · rename_i h; exact absurd ⟨rfl,by omega⟩ h
  · have : qu (doW M 1 0) 1 = takeP (qu M 1) (outK M 1 0) := by
      unfold doW
      rw [hr,qu_setP,qu_setQ (by omega),if_pos rfl]
    rw [this]
    unfold takeP
    rw [if_pos h2]
    exact hqb
  · show (M.p.set _ _).length = 4
    rw [List.length_set]; exact hpl
  · show (M.pipes.set _ _).length = 3
    rw [List.length_set]; exact hql
  · rw [hp1]
    show ((pr M 1).out.set 0 _).length = 1
    rw [List.length_set]; exact hol
def xHead_S : Spec:=fun args K=>∃ (n : Int) (b : Bs) (rm : Int) (ps : List Int),args = [.int .i64 n,.sl byteV b,.int .i64 rm,.sl intV ps] ∧ K (.bool true)
noncomputable def xHead_lib : List (Nat × Spec):=[(19,newX_S),(13,milledX_S),(20,runX_S),(12,stepX_S),(21,check_S),(22,finX_S),(23,evalG_S),(18,equalB_S)]
noncomputable def xHead_fns : List (Nat × FnI):=[]
noncomputable def xHead_prims : List (Nat × PSpec):=[]
theorem xHead_E : EnvOK ⟨Tryz.prog,tys,xHead_lib,xHead_fns,xHead_prims,[]⟩:=env_ok mixed0 tys0 (.cons newX_ca newX_ok (.cons milledX_ca milledX_ok (.cons runX_ca runX_ok (.cons stepX_ca stepX_ok (.cons check_ca check_ok (.cons finX_ca finX_ok (.cons evalG_ca evalG_ok (.cons equalB_ca equalB_ok .nil)))))))) .nil .nil rfl
set_option maxHeartbeats 16000000 in
set_option maxRecDepth 10000 in
theorem xHead_ok : Pure Tryz.prog 4 xHead_S:=by
  refine pure_by xHead_E 6 (fi:={fn:=Tryz.f4,hooks:=[],draws:=[]}) ⟨Tryz.func4,by kernel_rfl,by kernel_rfl⟩ ?_
  rintro _ K ⟨n,b,rm,ps,rfl,hK⟩
  replace hK : ∀ r,r = .bool true → K r:=fun r h=>h ▸ hK
  obtain ⟨s,hs⟩ : ∃ s,newP (headN n) [⟨[97],b⟩] rm = s:=⟨_,rfl⟩
  skip
  refine ⟨Gp.Port,portV,?_⟩
  skip
  refine ⟨Gp.Port,portV,[⟨0,0⟩],LeL.refl _,?_⟩
  skip
  refine ⟨Gp.Port,portV,[⟨1,0⟩],LeL.refl _,?_⟩
  skip
  refine ⟨Gp.Port,portV,[⟨2,0⟩],LeL.refl _,?_⟩
  skip
  refine ⟨Gp.Node,nodeV,headN n,LeL.refl _,?_⟩
  skip
  refine ⟨FileS,fileV,[⟨[97],b⟩],LeL.refl _,?_⟩
  skip
  refine ⟨headN n,[⟨[97],b⟩],rm,rfl,?_⟩
  rw [hs]
  repeat' first | (refine fun (b : Bool) hb=>?_; cases b <;> (first | exact absurd hb (by decide) | exact Bool.noConfusion (show true = false from hb) | exact Bool.noConfusion (show false = true from hb) | skip)) | refine ⟨rfl,?_⟩ | fail
  all_goals (try (conv=>whnf))
  all_goals (skip)
  rotate_right
  · exact hK _ rfl
  have hs0 : s.2 = 0:=by simpa using ‹(!decide (s.2 = 0)) = false›
  obtain ⟨hg,hf,h1,rfl⟩:=new_ok hs hs0
  have G:=goes (f:=[⟨[97],b⟩]) (rm:=rm) hg (show cnt 1 (headN n) ≤ 4 from by unfold headN srcN workN sinkN; simp [cnt]) hf h1
  generalize hv : (evalG (headN n) [⟨[97],b⟩]).1 = v at G
  have c0:=G.ck _ G.fresh
  refine ⟨freshM (headN n) [⟨[97],b⟩] rm,ps,Ok [⟨[97],b⟩] (headN n) rm,rfl,fun _=>⟨right_copy (right_of c0),G.fresh,G.steps⟩,?_⟩
  unfold runP
  rw [if_neg (by rw [c0]; decide)]
  by_cases h4 : 40000 < ps.length
  · rw [if_pos h4]
    repeat' first | (refine fun (b : Bool) hb=>?_; cases b <;> (first | exact absurd hb (by decide) | exact Bool.noConfusion (show true = false from hb) | exact Bool.noConfusion (show false = true from hb) | skip)) | fail
    conv=>whnf
    skip
    all_goals exact hK _ rfl
  rw [if_neg h4]
  have hO:=run_ok (gf_of hg) ps (freshM (headN n) [⟨[97],b⟩] rm) [] G.fresh
  generalize hM : (runGo ps (freshM (headN n) [⟨[97],b⟩] rm) []).1 = M at hO
  have c1:=G.ck _ hO
  have R:=right_of c1
  obtain ⟨k2,M2,f1,f2,f3,f4⟩:=G.fin _ hO
  have hpl : M.p.length = 4:=hO.sh.np
  have hql : M.pipes.length = 3:=hO.sh.nq
  have hol1 : (M.p[1]'(by omega)).out.length = 1:=by
    rw [← pr_at]
    exact hO.sh.out 1 (by show 1 < 4; omega)
  repeat' first | (refine fun (b : Bool) hb=>?_; cases b <;> (first | exact absurd hb (by decide) | exact Bool.noConfusion (show true = false from hb) | exact Bool.noConfusion (show false = true from hb) | skip)) | (refine fun (hl : _ ≤ MAXL)=>?_) | refine ⟨_,rfl,?_,rfl,?_⟩ | fail
  conv=>whnf
  skip
  all_goals first
    | (show 2 < M.p.length; omega)
    | (show 1 < M.pipes.length; omega)
    | (show 1 < M.p.length; omega)
    | (show 0 < (M.p[1]'(by omega)).out.length; rw [hol1]; decide)
    | skip
  rotate_right
  have hsh : M.pipes[1].shut = true:=by assumption
  have hcl : M.pipes[1].closed = false:=by simpa using ‹(!M.pipes[1].closed) = true›
  have hlen:=of_decide_eq_true (by assumption : decide (0 < ((M.p[1].out[0]).length : Int)) = true)
  have q1 : qu M 1 = M.pipes[1]:=by
    unfold qu
    rw [List.getD_eq_getElem?_getD,List.getElem?_eq_getElem (by omega)]; rfl
  have o1 : outK M 1 0 = M.p[1].out[0]:=by
    unfold outK
    rw [pr_at (by omega),List.getD_eq_getElem?_getD,List.getElem?_eq_getElem (by omega)]; rfl
  obtain ⟨e1,e2,e3,e4,e5,e6⟩:=head_step hO R c1 (by rw [q1]; exact hsh) (by
    rw [o1]
    intro h
    rw [h] at hlen
    exact absurd hlen (by decide)) (by rw [q1]; exact hcl)
  have o2 : ((doW M 1 0).p[1]'(by omega)).out.length = 1:=by rw [← pr_at (by omega)]; exact e6
  have o3 : (((doW M 1 0).p[1]'(by omega)).out[0]'(by omega)) = []:=by
    rw [← e2]
    unfold outK
    rw [pr_at (by omega),List.getD_eq_getElem?_getD,List.getElem?_eq_getElem (by omega)]; rfl
  have o4 : ((doW M 1 0).pipes[1]'(by omega)).b = []:=by
    rw [← e3]
    unfold qu
    rw [List.getD_eq_getElem?_getD,List.getElem?_eq_getElem (by omega)]; rfl
  refine ⟨M,1,rfl,?_⟩
  rw [e1]
  repeat' first | (refine fun (b : Bool) hb=>?_; cases b <;> (first | exact absurd hb (by decide) | exact Bool.noConfusion (show true = false from hb) | exact Bool.noConfusion (show false = true from hb) | skip)) | (refine fun (hl : _ ≤ MAXL)=>?_) | refine ⟨_,rfl,?_,rfl,?_⟩ | fail
  conv=>whnf
  skip
  all_goals first
    | (show 1 < (doW M 1 0).p.length; omega)
    | (show 1 < (doW M 1 0).pipes.length; omega)
    | (show 0 < ((doW M 1 0).p[1]'(by omega)).out.length; rw [o2]; decide)
    | skip
  rotate_left
  · have h:=‹(!decide ((((doW M 1 0).pipes[1]'(by omega)).b.length : Int) = 0)) = true›
    rw [o4] at h
    exact absurd h (by decide)
  · have h:=‹(!decide (((((doW M 1 0).p[1]'(by omega)).out[0]'(by omega)).length : Int) = 0)) = true›
    rw [o3] at h
    exact absurd h (by decide)
  all_goals
    conv=>whnf
    refine loop_live [1,9,10,119,120] (σ:=Nat) (fun k=>[(121,.int .i64 k)]) (fun _=>[.dead,.dead,.dead,.fz nodeV (headN n),.box [.own 3],.dead,.box [.sl nodeV M.g,.sl fileV M.f,.sl pipeV M.pipes,.sl procV M.p,.sl byteV M.sunk]]) (fun k=>k ≤ M.pipes.length) (fun k=>M.pipes.length - k) 0 ?_
    conv=>whnf
    refine ⟨(by (refine wk_sel [some 0,some 1,some 2,some 3,some 4,some 5,some 6] rfl rfl ?_ ?_ <;> (repeat' (first | exact True.intro | exact rfl | exact Or.inl rfl | exact Or.inr rfl | refine And.intro ?_ ?_ | fail)))),Nat.zero_le _,fun k hk=>?_⟩
    repeat' first | (refine fun (b : Bool) hb=>?_; cases b <;> (first | exact absurd hb (by decide) | exact Bool.noConfusion (show true = false from hb) | exact Bool.noConfusion (show false = true from hb) | skip)) | refine ⟨_,rfl,?_,rfl,?_⟩ | fail
    · conv=>whnf
      skip
      refine ⟨M,k2,(M2,0),Ok [⟨[97],b⟩] (headN n) rm,rfl,⟨fun _=>⟨right_copy R,hO,G.steps,f1⟩,fun h=>absurd c1 h⟩,?_⟩
      skip
      conv=>whnf
      skip
      refine ⟨FileS,fileV,[⟨[97],b⟩],LeL.refl _,?_⟩
      skip
      refine ⟨headN n,[⟨[97],b⟩],rfl,?_⟩
      rw [G.ev]
      repeat' first | (refine fun (b : Bool) hb=>?_; cases b <;> (first | exact absurd hb (by decide) | exact Bool.noConfusion (show true = false from hb) | exact Bool.noConfusion (show false = true from hb) | skip)) | fail
      conv=>whnf
      skip
      refine ⟨M2.sunk,v,rfl,?_⟩
      rw [decide_eq_true f4]
      skip
      exact hK _ rfl
    · have h:=of_decide_eq_true (by assumption : decide ((k : Int) < (M.pipes.length : Int)) = true)
      show k < M.pipes.length
      omega
    have hk2 : k < M.pipes.length:=by
      have h:=of_decide_eq_true (by assumption : decide ((k : Int) < (M.pipes.length : Int)) = true)
      omega
    conv=>whnf
    skip
    refine ⟨M.pipes[k],rfl,?_⟩
    rw [check_link,R.q _ (List.getElem_mem hk2)]
    repeat' first | (refine fun (b : Bool) hb=>?_; cases b <;> (first | exact absurd hb (by decide) | exact Bool.noConfusion (show true = false from hb) | exact Bool.noConfusion (show false = true from hb) | skip)) | refine And.intro (a:=I64 _) ?_ ?_ | fail
    · show I64 ((k : Int) + 1)
      unfold I64; omega
    exact ⟨k + 1,(by (refine wk_sel [some 0,some 1,some 2,some 3,some 4,some 5,some 6] rfl rfl ?_ ?_ <;> (repeat' (first | exact True.intro | exact rfl | exact Or.inl rfl | exact Or.inr rfl | refine And.intro ?_ ?_ | fail)))),hk2,by show M.pipes.length - (k + 1) < M.pipes.length - k; omega⟩
end Gv
