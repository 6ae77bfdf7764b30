/- What functions of the program come to, part 2: in every world; the conditions stand in each theorem. -/
import Derived.Test.YtffljdmmambdjacGreatDoorF1
set_option linter.unusedVariables false
set_option linter.unusedSectionVars false
set_option linter.unusedSimpArgs false
open Go Go.Proofs Gw Gp
namespace Gv
variable [Glob] [Laid] [Nums] [Errs]
def stepZ (m : MachS) (i : Nat) : Prop:=(∀ q ∈ m.pipes,checkPipe q = 0) ∧ 0 ≤ (pr m i).pos ∧ ((pr m i).read = true ∨ nI m.g i = 0 ∨ (pr m i).pos < (nI m.g i : Int)) ∧ (pr m i).got.flatten.length + 8 ≤ 400000 ∧ m.sunk.length ≤ 500000
theorem close_link (p : PipeS) : ((pipeClose p).2 = 0 → (pipeClose p).1 = closeP p) ∧ ((pipeClose p).2 ≠ 0 → closeP p = p):=by
  unfold pipeClose closeP
  rw [check_link]
  by_cases hc : checkPipe p = 0
  · rw [if_neg (by rw [hc]; decide),if_pos hc]
    cases hcl : p.closed with
    | true =>
      rw [if_pos rfl]
      refine ⟨fun h=>absurd h (by decide),fun _=>?_⟩
      obtain ⟨b,r,c,s⟩:=p
      dsimp only at hcl
      rw [hcl]
    | false =>
      rw [if_neg (by decide)]
      exact ⟨fun _=>rfl,fun h=>absurd rfl h⟩
  · rw [if_pos hc,if_neg hc]
    exact ⟨fun h=>absurd h hc,fun _=>rfl⟩
theorem set_getD_self {α : Type} (l : List α) (r : Nat) (d : α) (h : r < l.length) : l.set r (l.getD r d) = l:=by
  rw [List.getD_eq_getElem?_getD,List.getElem?_eq_getElem h]
  simp
theorem step_write {m : MachS} {i k : Nat} (ho : (pr m i).over = false) (hk : k < (pr m i).out.length) (hc : canW m i k = true) (hn : ∀ j,j < k → canW m i j = false) : stepM m i = (doW m i k,0):=by
  have ha : (pr m i).out.any (fun b=>decide (b ≠ [])) = true:=by
    rw [List.any_eq_true]
    refine ⟨outK m i k,?_,?_⟩
    · unfold outK
      rw [List.getD_eq_getElem?_getD,List.getElem?_eq_getElem hk]
      exact List.getElem_mem hk
    · unfold canW at hc
      simp only [Bool.and_eq_true] at hc
      exact hc.1.1.1
  have hf : (List.range (pr m i).out.length).find? (canW m i) = some k:=by
    rw [List.find?_range_eq_some]
    refine ⟨hc,by simpa using hk,fun j hj=>by rw [hn j hj]; rfl⟩
  unfold stepM
  rw [if_neg (by rw [ho]; decide),if_pos ha,hf]
theorem step_stuck {m : MachS} {i : Nat} (ho : (pr m i).over = false) (ha : (pr m i).out.any (fun b=>decide (b ≠ [])) = true) (hn : ∀ k,k < (pr m i).out.length → canW m i k = false) : stepM m i = (m,8):=by
  have hf : (List.range (pr m i).out.length).find? (canW m i) = none:=by
    rw [List.find?_eq_none]
    intro k hk
    rw [hn k (List.mem_range.1 hk)]
    decide
  unfold stepM
  rw [if_neg (by rw [ho]; decide),if_pos ha,hf]
theorem stepF_ca : callable Tryz.prog 55 = true:=by kernel_rfl
def stepF_P : PSpec:=fun args rows K=>StepF stepZ args rows K
noncomputable def stepF_lib : List (Nat × Spec):=[(122,readerX_S),(123,close_S)]
noncomputable def stepF_fns : List (Nat × FnI):=[(119,{fn:=Tryz.f119,hooks:=[],draws:=[]}),(161,{fn:=Tryz.f161,hooks:=[],draws:=[]}),(120,{fn:=Tryz.f120,hooks:=[],draws:=[]}),(121,{ fn:=Tryz.f121,spec:=some writeF_P }),(124,{ fn:=Tryz.f124,spec:=some readF_P })]
noncomputable def stepF_prims : List (Nat × PSpec):=[]
theorem stepF_E : EnvOK ⟨Tryz.prog,tys,stepF_lib,stepF_fns,stepF_prims,[]⟩:=env_ok mixed0 tys0 (.cons readerX_ca readerX_ok (.cons close_ca close_ok .nil)) (.cons (by kernel_rfl) ⟨Tryz.func119,by kernel_rfl,by kernel_rfl⟩ (.cons (by kernel_rfl) ⟨Tryz.func161,by kernel_rfl,by kernel_rfl⟩ (.cons (by kernel_rfl) ⟨Tryz.func120,by kernel_rfl,by kernel_rfl⟩ (.told writeF_ca rfl writeF_prim (.told readF_ca rfl readF_prim .nil))))) .nil rfl
set_option maxHeartbeats 16000000 in
theorem stepF_prim : PrimOK Tryz.prog 55 stepF_P:=by
  refine prim_by stepF_E 6 stepF_ca (fi:={fn:=Tryz.f55,hooks:=[18],draws:=[(15,[0,1,3,7,0,0,63,127])]}) ⟨Tryz.func55,by kernel_rfl,by kernel_rfl⟩ ?_
  rintro args rows K ⟨m,i,els,rfl,h,⟨hq,hp0,hp1,hsz,hsk⟩,rfl,hK⟩
  have hei : (els.set i (procF (pr m i)))[i]? = some (procF (pr m i)):=List.getElem?_set_self (by rw [h.nl]; exact h.lt)
  have hel : (els.set i (procF (pr m i))).length = m.g.length:=by rw [List.length_set,h.nl]
  have hpe:=h.pe
  have hgf:=gf_of h.g
  have hmp : i < m.p.length:=by rw [h.np]; exact h.lt
  unfold focR
  repeat' first | refine ⟨rfl,?_⟩ | fail
  refine ⟨i,rfl,by rw [hel]; exact h.lt,?_⟩
  conv=>whnf
  refine ⟨_,hei,?_⟩
  repeat' first | (refine fun (b : Bool) hb=>?_; cases b <;> (first | exact absurd hb (by decide) | exact Bool.noConfusion (show true = false from hb) | exact Bool.noConfusion (show false = true from hb) | skip)) | fail
  rotate_left
  · have ho : (pr m i).over = true:=by assumption
    conv=>whnf
    skip
    have hfin:=hK []
    unfold stepM at hfin
    rw [if_pos ho] at hfin
    exact hfin
  have ho : (pr m i).over = false:=by assumption
  conv=>whnf
  refine ⟨_,hei,?_⟩
  repeat' first | (refine fun (hl : _ ≤ MAXL)=>?_) | fail
  conv=>whnf
  refine loop_live [0,1,7] (σ:=Nat) (fun k=>[(8,.int .i64 k)]) (fun _=>[.box [.sl nodeV m.g,.sl fileV m.f,.own 1,.own 2,.sl byteV m.sunk],.row 4 (m.pipes.map pipeV),.rowq 5 (els.set i (procF (pr m i))),.row 1 ((pr m i).got.map blV),.row 1 ((pr m i).out.map blV)]) (fun k=>k ≤ (pr m i).out.length ∧ ∀ j,j < k → outK m i j = []) (fun k=>(pr m i).out.length - k) 0 ?_
  conv=>whnf
  refine ⟨(by (refine wk_sel [some 0,some 1,some 2,some 3,some 4] rfl rfl ?_ ?_ <;> (repeat' (first | exact wkEls_foc hpe rfl rfl | exact True.intro | exact rfl | exact Or.inl rfl | exact Or.inr rfl | refine And.intro ?_ ?_ | fail)))),⟨Nat.zero_le _,fun j hj=>by omega⟩,fun k hk=>?_⟩
  obtain ⟨hk,hno⟩:=hk
  repeat' first | (refine fun (b : Bool) hb=>?_; cases b <;> (first | exact absurd hb (by decide) | exact Bool.noConfusion (show true = false from hb) | exact Bool.noConfusion (show false = true from hb) | skip)) | refine ⟨rfl,?_⟩ | fail
  · have hkl : k = (pr m i).out.length := by
      have h:=of_decide_eq_false (by assumption : decide ((k : Int) < (((pr m i).out.map blV).length : Int)) = false)
      rw [List.length_map] at h
      omega
    subst hkl
    have hany : ¬ (pr m i).out.any (fun b=>decide (b ≠ [])) = true:=fun e=>by
      rw [List.any_eq_true] at e
      obtain ⟨b,hb,hd⟩:=e
      obtain ⟨j,hj,rfl⟩:=List.getElem_of_mem hb
      have:=hno j hj
      unfold outK at this
      rw [List.getD_eq_getElem?_getD,List.getElem?_eq_getElem hj] at this
      exact of_decide_eq_true hd this
    conv=>whnf
    refine ⟨_,hei,?_⟩
    repeat' first | (refine fun (b : Bool) hb=>?_; cases b <;> (first | exact absurd hb (by decide) | exact Bool.noConfusion (show true = false from hb) | exact Bool.noConfusion (show false = true from hb) | skip)) | fail
    · -- what goes on
      have hr : (pr m i).read = false:=by assumption
      have hp1:=hp1.resolve_left (by rw [hr]; decide)
      have hst : ∀ o,readM m i = o → stepM m i = match o with | some m'=>(m',0) | none=>(m,8):=fun o ho2=>by
        unfold stepM
        rw [if_neg (by rw [ho]; decide),if_neg hany,if_neg (by rw [hr]; decide),ho2]
        cases o <;> rfl
      conv=>whnf
      skip
      refine ⟨m,i,els,rfl,h,⟨hq,hp0,hp1,hsz,hsk⟩,rfl,fun m' ex hm=>?_,fun ex hm=>?_⟩
      · conv=>whnf
        skip
        have hfin:=hK ex
        rw [hst _ hm] at hfin
        exact hfin
      · conv=>whnf
        skip
        have hfin:=hK ex
        rw [hst _ hm] at hfin
        exact hfin
    -- all is written
    have hr : (pr m i).read = true:=by assumption
    conv=>whnf
    refine ⟨_,hei,?_⟩
    repeat' first | (refine fun (hl : _ ≤ MAXL)=>?_) | fail
    conv=>whnf
    refine loop_live [0,1,5,37] (σ:=Nat) (fun k=>[(38,.int .i64 k)]) (fun k=>[.box [.sl nodeV m.g,.sl fileV m.f,.own 1,.own 2,.sl byteV m.sunk],.row 4 ((closeQs m i k).map pipeV),.rowq 5 (els.set i (procF (pr m i))),.row 1 ((pr m i).got.map blV),.row 1 ((pr m i).out.map blV)]) (fun k=>k ≤ (pr m i).out.length) (fun k=>(pr m i).out.length - k) 0 ?_
    conv=>whnf
    refine ⟨(by (refine wk_sel [some 0,some 1,some 2,some 3,some 4] rfl rfl ?_ ?_ <;> (repeat' (first | exact wkEls_foc hpe rfl rfl | exact True.intro | exact rfl | exact Or.inl rfl | exact Or.inr rfl | refine And.intro ?_ ?_ | fail)))),Nat.zero_le _,fun k hk=>?_⟩
    repeat' first | (refine fun (b : Bool) hb=>?_; cases b <;> (first | exact absurd hb (by decide) | exact Bool.noConfusion (show true = false from hb) | exact Bool.noConfusion (show false = true from hb) | skip)) | fail
    · have hkl : k = (pr m i).out.length := by
        have h:=of_decide_eq_false (by assumption : decide ((k : Int) < (((pr m i).out.map blV).length : Int)) = false)
        rw [List.length_map] at h
        omega
      subst hkl
      have hs : stepM m i = (closeM m i,0):=by
        unfold stepM
        rw [if_neg (by rw [ho]; decide),if_neg hany,if_pos hr]
      have hf : focR (closeM m i) i els = [.box [.sl nodeV m.g,.sl fileV m.f,.own 1,.own 2,.sl byteV m.sunk],.row 4 ((closeQs m i (pr m i).out.length).map pipeV),.rowq 5 (els.set i (procF ⟨(pr m i).got,(pr m i).pos,(pr m i).out,(pr m i).read,true⟩)),.row 1 ((pr m i).got.map blV),.row 1 ((pr m i).out.map blV)]:=focR_set hmp
      conv=>whnf
      refine join_live [] (σ:=Unit) (fun _=>[]) (fun _=>[.box [.sl nodeV m.g,.sl fileV m.f,.own 1,.own 2,.sl byteV m.sunk],.row 4 ((closeQs m i (pr m i).out.length).map pipeV),.rowq 5 (els.set i (procF ⟨(pr m i).got,(pr m i).pos,(pr m i).out,(pr m i).read,true⟩)),.row 1 ((pr m i).got.map blV),.row 1 ((pr m i).out.map blV)]) (fun _=>True) ?_
      conv=>whnf
      refine ⟨?_,fun _ _=>?_⟩
      · conv=>whnf
        refine ⟨_,hei,?_⟩
        conv=>whnf
        rw [List.set_set]
        refine ⟨(),?_,trivial⟩
        refine wk_sel [some 0,some 1,some 2,some 3,some 4] rfl rfl ?_ ?_ <;> (repeat' (first | exact wkEls_foc2 hpe ⟨rfl,rfl,rfl,rfl,Or.inr rfl,trivial⟩ | exact True.intro | exact rfl | exact Or.inl rfl | exact Or.inr rfl | refine And.intro ?_ ?_ | fail))
        all_goals done
      conv=>whnf
      skip
      have hfin:=hK []
      rw [hs] at hfin
      dsimp only at hfin
      rw [hf] at hfin
      exact hfin
    have hk2 : k < (pr m i).out.length:=by
      have h:=of_decide_eq_true (by assumption : decide ((k : Int) < (((pr m i).out.map blV).length : Int)) = true)
      rw [List.length_map] at h
      omega
    have hrl:=rdr_lt h hk2
    have hlen:=closeQs_len m i k
    have hrq : rdr m i k < (closeQs m i k).length:=by rw [hlen,h.nq]; exact hrl
    have hgq : ((closeQs m i k).map pipeV)[rdr m i k]? = some (pipeV ((closeQs m i k).getD (rdr m i k) zP)):=by
      rw [List.getElem?_map,List.getElem?_eq_getElem hrq,List.getD_eq_getElem?_getD,List.getElem?_eq_getElem hrq]
      rfl
    obtain ⟨c1,c2⟩:=close_link ((closeQs m i k).getD (rdr m i k) zP)
    conv=>whnf
    skip
    refine ⟨m.g,⟨i,k⟩,rfl,allIns_small h.g,?_⟩
    rw [show readerI m.g ⟨(i : Int),(k : Int)⟩ = rdr m i k from rfl,if_pos hrl]
    repeat' first | refine ⟨rfl,?_⟩ | fail
    refine ⟨rdr m i k,rfl,by rw [List.length_map]; exact hrq,?_⟩
    conv=>whnf
    refine ⟨_,hgq,?_⟩
    skip
    refine ⟨(closeQs m i k).getD (rdr m i k) zP,rfl,?_⟩
    repeat' first | exact True.intro | (refine fun (b : Bool) hb=>?_; cases b <;> (first | exact absurd hb (by decide) | exact Bool.noConfusion (show true = false from hb) | exact Bool.noConfusion (show false = true from hb) | skip)) | refine And.intro (a:=I64 _) ?_ ?_ | refine ⟨_,⟨rfl,rfl⟩,?_⟩ | refine And.intro (a:=chkPast _ _ _ _ _ _ _ _) ?_ ?_ | fail
    · have hM : ((pr m i).out.map blV).length ≤ MAXL:=by assumption
      rw [List.length_map] at hM
      unfold I64; unfold MAXL at hM; omega
    · have hne:=of_decide_eq_false (by assumption : decide ((pipeClose ((closeQs m i k).getD (rdr m i k) zP)).2 = 0) = false)
      have hst : closeQs m i (k + 1) = closeQs m i k:=by
        show (closeQs m i k).set (rdr m i k) (closeP ((closeQs m i k).getD (rdr m i k) zP)) = closeQs m i k
        rw [c2 hne,set_getD_self _ _ _ hrq]
      refine ⟨k + 1,?_,hk2,by omega⟩
      show Wk _ _ _ _ [.box [.sl nodeV m.g,.sl fileV m.f,.own 1,.own 2,.sl byteV m.sunk],.row 4 ((closeQs m i (k + 1)).map pipeV),.rowq 5 (els.set i (procF (pr m i))),.row 1 ((pr m i).got.map blV),.row 1 ((pr m i).out.map blV)]
      rw [hst]
      exact (by (refine wk_sel [some 0,some 1,some 2,some 3,some 4] rfl rfl ?_ ?_ <;> (repeat' (first | exact wkEls_foc hpe rfl rfl | exact True.intro | exact rfl | exact Or.inl rfl | exact Or.inr rfl | refine And.intro ?_ ?_ | fail))))
    have hne:=of_decide_eq_true (by assumption : decide ((pipeClose ((closeQs m i k).getD (rdr m i k) zP)).2 = 0) = true)
    have hst : closeQs m i (k + 1) = (closeQs m i k).set (rdr m i k) (pipeClose ((closeQs m i k).getD (rdr m i k) zP)).1:=by
      rw [c1 hne]; rfl
    conv=>whnf
    skip
    conv=>whnf
    apply Exists.intro
    apply And.intro
    · refine ⟨rfl,rdr m i k,rfl,by rw [List.length_map]; exact hrq,?_⟩
      exact ⟨rfl,rfl⟩
    conv=>whnf
    refine ⟨trivial,?_⟩
    conv=>whnf
    apply Exists.intro
    apply Exists.intro
    apply And.intro
    · conv=>whnf
      refine ⟨by rw [List.length_map]; exact hrq,?_⟩
      exact ⟨rfl,rfl⟩
    conv=>whnf
    repeat' first | exact True.intro | refine And.intro (a:=I64 _) ?_ ?_ | refine And.intro (a:=chkPend _ _ _ _ _ _) ?_ ?_ | fail
    conv=>whnf
    skip
    · have hM : ((pr m i).out.map blV).length ≤ MAXL:=by assumption
      rw [List.length_map] at hM
      unfold MAXL at hM; (try unfold I64); omega
    refine ⟨k + 1,?_,hk2,by omega⟩
    show Wk _ _ _ _ [.box [.sl nodeV m.g,.sl fileV m.f,.own 1,.own 2,.sl byteV m.sunk],.row 4 ((closeQs m i (k + 1)).map pipeV),.rowq 5 (els.set i (procF (pr m i))),.row 1 ((pr m i).got.map blV),.row 1 ((pr m i).out.map blV)]
    rw [hst,List.map_set]
    exact (by (refine wk_sel [some 0,some 1,some 2,some 3,some 4] rfl rfl ?_ ?_ <;> (repeat' (first | exact wkEls_foc hpe rfl rfl | exact True.intro | exact rfl | exact Or.inl rfl | exact Or.inr rfl | refine And.intro ?_ ?_ | fail))))
  · have hk2 : k < (pr m i).out.length := by
      have h:=of_decide_eq_true (by assumption : decide ((k : Int) < (((pr m i).out.map blV).length : Int)) = true)
      rw [List.length_map] at h
      omega
    have hgk : ((pr m i).out.map blV)[k]? = some (blV (outK m i k)):=by
      unfold outK
      rw [List.getElem?_map,List.getElem?_eq_getElem hk2,List.getD_eq_getElem?_getD,List.getElem?_eq_getElem hk2]; rfl
    refine ⟨k,rfl,by rw [List.length_map]; exact hk2,?_⟩
    conv=>whnf
    refine ⟨_,hgk,?_⟩
    repeat' first | (refine fun (b : Bool) hb=>?_; cases b <;> (first | exact absurd hb (by decide) | exact Bool.noConfusion (show true = false from hb) | exact Bool.noConfusion (show false = true from hb) | skip)) | (refine fun (hl : _ ≤ MAXL)=>?_) | refine And.intro (a:=I64 _) ?_ ?_ | fail
    · have hM : ((pr m i).out.map blV).length ≤ MAXL:=by assumption
      rw [List.length_map] at hM
      unfold I64; unfold MAXL at hM; omega
    · have he : outK m i k = [] := by
        have h:=of_decide_eq_false (by assumption : decide (0 < ((outK m i k).length : Int)) = false)
        exact List.length_eq_zero_iff.1 (by omega)
      refine ⟨k + 1,(by (refine wk_sel [some 0,some 1,some 2,some 3,some 4] rfl rfl ?_ ?_ <;> (repeat' (first | exact wkEls_foc hpe rfl rfl | exact True.intro | exact rfl | exact Or.inl rfl | exact Or.inr rfl | refine And.intro ?_ ?_ | fail)))),⟨by omega,fun j hj=>?_⟩,by omega⟩
      rcases Nat.lt_or_ge j k with h2 | h2
      · exact hno j h2
      · obtain rfl : j = k:=by omega
        exact he
    have hne : outK m i k ≠ []:=by
      have h:=of_decide_eq_true (by assumption : decide (0 < ((outK m i k).length : Int)) = true)
      intro e
      rw [e] at h
      exact absurd h (by decide)
    have hany : (pr m i).out.any (fun b=>decide (b ≠ [])) = true:=by
      rw [List.any_eq_true]
      refine ⟨outK m i k,?_,decide_eq_true hne⟩
      unfold outK
      rw [List.getD_eq_getElem?_getD,List.getElem?_eq_getElem hk2]
      exact List.getElem_mem hk2
    conv=>whnf
    skip
    refine ⟨m,i,els,rfl,h,rfl,fun j ex hj hc hn=>?_,fun hn ex=>?_⟩
    · conv=>whnf
      skip
      have hfin:=hK ex
      rw [step_write ho hj hc hn] at hfin
      exact hfin
    · conv=>whnf
      skip
      have hfin:=hK ex
      rw [step_stuck ho hany hn] at hfin
      exact hfin
end Gv
namespace Gv
variable [Glob] [Laid]
theorem outs_ca : callable Tryz.prog 65 = true:=by kernel_rfl
def outs_S : Spec:=fun args K=>∃ n : Gp.Node,args = [nodeV n] ∧ K (.int .i64 (outsN n))
noncomputable def outs_lib : List (Nat × Spec):=[]
noncomputable def outs_fns : List (Nat × FnI):=[]
noncomputable def outs_prims : List (Nat × PSpec):=[]
theorem outs_E : EnvOK ⟨Tryz.prog,tys,outs_lib,outs_fns,outs_prims,[]⟩:=env_ok mixed0 tys0 .nil .nil .nil rfl
set_option maxHeartbeats 4000000 in
theorem outs_ok : Pure Tryz.prog 65 outs_S:=by
  refine pure_by outs_E 6 (fi:={fn:=Tryz.f65,hooks:=[],draws:=[]}) ⟨Tryz.func65,by kernel_rfl,by kernel_rfl⟩ ?_
  rintro _ K ⟨n,rfl,hK⟩
  replace hK : ∀ r,r = .int .i64 (outsN n) → K r:=fun r h=>h ▸ hK
  unfold outsN at hK
  repeat' first | (refine fun (b : Bool) hb=>?_; cases b <;> (first | exact absurd hb (by decide) | exact Bool.noConfusion (show true = false from hb) | exact Bool.noConfusion (show false = true from hb) | skip)) | fail
  · have h2 : ¬ n.kind = 2:=of_decide_eq_false (by assumption)
    have h5 : ¬ n.kind = 5:=of_decide_eq_false (by assumption)
    rw [if_neg h2,if_neg h5] at hK
    exact hK _ rfl
  · have h2 : ¬ n.kind = 2:=of_decide_eq_false (by assumption)
    have h5 : n.kind = 5:=of_decide_eq_true (by assumption)
    rw [if_neg h2,if_pos h5] at hK
    exact hK _ rfl
  · have h2 : n.kind = 2:=of_decide_eq_true (by assumption)
    rw [if_pos h2] at hK
    exact hK _ rfl
end Gv
namespace Gv
variable [Glob] [Laid]
def lbV (l : List Bs) : V:=.sl blV l
theorem concatBL_ca : callable Tryz.prog 156 = true:=by kernel_rfl
def concatBL_S : Spec:=fun args K=>∃ a : List (List Bs),args = [.sl lbV a] ∧ a.flatten.length ≤ 1000000 ∧ K (.sl blV a.flatten)
noncomputable def concatBL_lib : List (Nat × Spec):=[]
noncomputable def concatBL_fns : List (Nat × FnI):=[(209,{fn:=Tryz.f209,hooks:=[],draws:=[]})]
noncomputable def concatBL_prims : List (Nat × PSpec):=[]
theorem concatBL_E : EnvOK ⟨Tryz.prog,tys,concatBL_lib,concatBL_fns,concatBL_prims,[]⟩:=env_ok mixed0 tys0 .nil (.cons (by kernel_rfl) ⟨Tryz.func209,by kernel_rfl,by kernel_rfl⟩ .nil) .nil rfl
set_option maxHeartbeats 4000000 in
theorem concatBL_ok : Pure Tryz.prog 156 concatBL_S:=by
  refine pure_by concatBL_E 6 (fi:={fn:=Tryz.f156,hooks:=[10],draws:=[]}) ⟨Tryz.func156,by kernel_rfl,by kernel_rfl⟩ ?_
  rintro _ K ⟨x,rfl,hx,hK⟩
  replace hK : ∀ p,p = .sl blV x.flatten → K p:=fun r h=>h ▸ hK
  obtain ⟨f,hf⟩ : ∃ f : Nat → List Bs,∀ i,f i = (x.take i).flatten:=⟨_,fun _=>rfl⟩
  have f0 : f 0 = []:=by simp [hf]
  have fS : ∀ i (h : i < x.length),f (i + 1) = f i ++ x[i]:=fun i h=>by
    rw [hf,hf,List.take_succ_eq_append_getElem h]
    simp only [List.flatten_append,List.flatten_cons,List.flatten_nil,List.append_nil]
  have fN : ∀ i,x.length ≤ i → f i = x.flatten:=fun i h=>by simp [hf,List.take_of_length_le h]
  have fl : ∀ i,(f i).length ≤ 1000000:=fun i=>by
    rw [← List.take_append_drop i x] at hx
    simp only [List.flatten_append,List.length_append] at hx
    rw [hf]; omega
  clear hf
  refine fun (hl : _ ≤ MAXL)=>?_
  conv=>whnf
  refine loop_intro (σ:=Nat) (fun i=>[(0,.sl lbV x),(2,.nil),(9,.sl lbV x),(10,.int .i64 x.length),(11,.int .i64 i),(3,.int .i64 ((f i).length : Nat))]) (fun _=>[]) (fun i=>i ≤ x.length) (fun i=>x.length - i) 0 (wk_sel [] rfl rfl trivial ?_) (Nat.zero_le _) ?_
  · simp only [f0]
    (repeat' (first | exact True.intro | exact rfl | exact Or.inl rfl | exact Or.inr rfl | refine And.intro ?_ ?_ | fail))
  intro i hi
  have hs:=fl i
  repeat' first | (refine fun (b : Bool) hb=>?_; cases b <;> (first | exact absurd hb (by decide) | exact Bool.noConfusion (show true = false from hb) | exact Bool.noConfusion (show false = true from hb) | skip)) | (refine fun (hl : _ ≤ MAXL)=>?_) | refine And.intro (a:=I64 _) ?_ ?_ | refine ⟨_,rfl,?_,rfl,?_⟩ | fail
  · conv=>whnf
    refine join_intro (σ:=Unit) (fun _=>[(0,.sl lbV x),(2,.nil),(6,.own 0)]) (fun _=>[.row 1 []]) (fun _=>True) ?_ ?_
    · repeat' first | (refine fun (b : Bool) hb=>?_; cases b <;> (first | exact absurd hb (by decide) | exact Bool.noConfusion (show true = false from hb) | exact Bool.noConfusion (show false = true from hb) | skip)) | (refine fun (hl : _ ≤ MAXL)=>?_) | refine And.intro (a:=I64 _) ?_ ?_ | refine ⟨rfl,?_⟩ | fail
      · unfold I64; omega
      · unfold I64; omega
      · refine ⟨(),wk_sel [none] rfl rfl trivial ?_,trivial⟩
        (repeat' (first | exact True.intro | exact rfl | exact Or.inl rfl | exact Or.inr rfl | refine And.intro ?_ ?_ | fail))
      · refine ⟨(f i).length,by simp,by grind,by simp only [Nat.mul_one]; omega,?_⟩
        refine fun _=>?_
        refine ⟨0,rfl,Nat.zero_le _,?_⟩
        refine ⟨(),wk_sel [some 1] rfl rfl ⟨rfl,trivial⟩ ?_,trivial⟩
        (repeat' (first | exact True.intro | exact rfl | exact Or.inl rfl | exact Or.inr rfl | refine And.intro ?_ ?_ | fail))
    intro _ _
    refine fun (hl : _ ≤ MAXL)=>?_
    conv=>whnf
    refine loop_intro (σ:=Nat) (fun i=>[(0,.sl lbV x),(2,.nil),(6,.own 0),(25,.sl lbV x),(26,.int .i64 x.length),(27,.int .i64 i)]) (fun i=>[.row 1 ((f i).map blV)]) (fun i=>i ≤ x.length) (fun i=>x.length - i) 0 (wk_sel [some 0] rfl rfl ⟨?_,trivial⟩ ?_) (Nat.zero_le _) ?_
    · rw [f0]; exact rfl
    · (repeat' (first | exact True.intro | exact rfl | exact Or.inl rfl | exact Or.inr rfl | refine And.intro ?_ ?_ | fail))
    intro i hi
    have hs:=fl i
    repeat' first | refine ⟨_,_,_,LeL.refl _,?_⟩ | (refine fun (b : Bool) hb=>?_; cases b <;> (first | exact absurd hb (by decide) | exact Bool.noConfusion (show true = false from hb) | exact Bool.noConfusion (show false = true from hb) | skip)) | refine And.intro (a:=I64 _) ?_ ?_ | refine And.intro (a:=_ ≤ 140737488355328) ?_ ?_ | refine ⟨_,rfl,?_,rfl,?_⟩ | refine ⟨(fun _=>rfl),?_⟩ | fail
    · refine hK _ ?_
      rw [fN i (by grind)]
    · grind
    · have:=fl (i + 1)
      rw [fS i (by grind)] at this
      simp only [List.length_append,List.length_map,lbV,elsOf] at this ⊢
      omega
    · unfold I64; grind
    · refine ⟨i + 1,?_,?_,?_⟩
      · refine wk_sel [some 1] rfl rfl ⟨?_,trivial⟩ ?_
        · rw [fS i (by grind),List.map_append]
          exact rfl
        · (repeat' (first | exact True.intro | exact rfl | exact Or.inl rfl | exact Or.inr rfl | refine And.intro ?_ ?_ | fail))
      · grind
      · grind
  · grind
  · unfold I64; grind
  · unfold I64; grind
  · refine ⟨i + 1,?_,?_,?_⟩
    · refine wk_sel [] rfl rfl trivial ?_
      rw [fS i (by grind)]
      simp only [List.length_append]
      (repeat' (first | exact True.intro | exact rfl | exact Or.inl rfl | exact Or.inr rfl | refine And.intro ?_ ?_ | fail))
    · grind
    · grind
end Gv
namespace Gv
variable [Glob] [Laid]
theorem checkPX_ca : callable Tryz.prog 96 = true:=by kernel_rfl
def checkPX_S : Spec:=fun args K=>∃ (n : Gp.Node) (p : ProcS),args = [nodeV n,procV p] ∧ checkN n = 0 ∧ K (.int .i64 (checkProc n p))
noncomputable def checkPX_lib : List (Nat × Spec):=[(65,outs_S),(156,concatBL_S)]
noncomputable def checkPX_fns : List (Nat × FnI):=[]
noncomputable def checkPX_prims : List (Nat × PSpec):=[]
theorem checkPX_E : EnvOK ⟨Tryz.prog,tys,checkPX_lib,checkPX_fns,checkPX_prims,[]⟩:=env_ok mixed0 tys0 (.cons outs_ca outs_ok (.cons concatBL_ca concatBL_ok .nil)) .nil .nil rfl
set_option maxHeartbeats 16000000 in
theorem checkPX_ok : Pure Tryz.prog 96 checkPX_S:=by
  refine pure_by checkPX_E 6 (fi:={fn:=Tryz.f96,hooks:=[3,5,7],draws:=[(1,[0,1,3,0,8,24,63,127,255,511,1023,255,2303,8191,16383])]}) ⟨Tryz.func96,by kernel_rfl,by kernel_rfl⟩ ?_
  rintro _ K ⟨n,p,rfl,hc,hK⟩
  replace hK : ∀ r,r = .int .i64 (checkProc n p) → K r:=fun r h=>h ▸ hK
  have c4 : (p.got.length ≠ n.ins.length ∨ (p.out.length : Int) ≠ outsN n) → V.int .i64 4 = V.int .i64 (checkProc n p):=fun h=>by unfold checkProc; rw [if_pos h]
  have hi:=ins_le hc
  have ho:=outsN_bnd hc
  conv=>whnf
  refine join_live [2,3] (σ:=Unit) (fun _=>[(2,.ptr 0 0 0),(3,.ptr 1 0 0)]) (fun _=>[.box (nodeV n).cells,.box (procV p).cells]) (fun _=>¬ (p.got.length ≠ n.ins.length ∨ (p.out.length : Int) ≠ outsN n)) ?_
  conv=>whnf
  refine ⟨?_,fun _ h1=>?_⟩
  · conv=>whnf
    repeat' first | exact True.intro | (refine fun (b : Bool) hb=>?_; cases b <;> (first | exact absurd hb (by decide) | exact Bool.noConfusion (show true = false from hb) | exact Bool.noConfusion (show false = true from hb) | skip)) | refine ⟨_,⟨rfl,rfl⟩,?_⟩ | refine ⟨_,(fun _=>⟨rfl,rfl⟩),?_⟩ | refine And.intro (a:=chkPast _ _ _ _ _ _ _ _) ?_ ?_ | fail
    · conv=>whnf
      skip
      apply Exists.intro
      apply And.intro
      · refine ⟨n,rfl,?_⟩
        exact ⟨rfl,rfl⟩
      conv=>whnf
      repeat' first | (refine fun (b : Bool) hb=>?_; cases b <;> (first | exact absurd hb (by decide) | exact Bool.noConfusion (show true = false from hb) | exact Bool.noConfusion (show false = true from hb) | skip)) | refine ⟨_,⟨rfl,rfl⟩,?_⟩ | fail
      all_goals (try (conv=>whnf))
      all_goals (skip)
      all_goals first
        | exact hK _ (c4 (by grind))
        | exact ⟨(),(by (refine wk_auto ?_; refine Sel4.mk rfl rfl ?_ ?_ <;> (repeat' (first | exact True.intro | exact rfl | exact Or.inl rfl | exact Or.inr rfl | refine And.intro ?_ ?_ | fail)))),by grind⟩
    all_goals (try (conv=>whnf))
    all_goals (skip)
    all_goals (try (conv=>whnf))
    all_goals (skip)
    all_goals (try (conv=>whnf))
    all_goals (skip)
    all_goals first
      | exact hK _ (c4 (by grind))
      | exact ⟨(),(by (refine wk_auto ?_; refine Sel4.mk rfl rfl ?_ ?_ <;> (repeat' (first | exact True.intro | exact rfl | exact Or.inl rfl | exact Or.inr rfl | refine And.intro ?_ ?_ | fail)))),by grind⟩
  have c3 : (p.pos < 0 ∨ (n.ins.length : Int) < p.pos ∨ (p.read = false ∧ p.over = true)) → V.int .i64 3 = V.int .i64 (checkProc n p):=fun h=>by unfold checkProc; rw [if_neg h1,if_pos h]
  conv=>whnf
  refine join_live [2,3] (σ:=Unit) (fun _=>[]) (fun _=>[.box (nodeV n).cells,.box (procV p).cells]) (fun _=>¬ (p.pos < 0 ∨ (n.ins.length : Int) < p.pos ∨ (p.read = false ∧ p.over = true))) ?_
  conv=>whnf
  refine ⟨?_,fun _ h2=>?_⟩
  · conv=>whnf
    repeat' first | (refine fun (b : Bool) hb=>?_; cases b <;> (first | exact absurd hb (by decide) | exact Bool.noConfusion (show true = false from hb) | exact Bool.noConfusion (show false = true from hb) | skip)) | (refine fun (hl : _ ≤ MAXL)=>?_) | fail
    all_goals (try (conv=>whnf))
    all_goals (skip)
    all_goals (try (conv=>whnf))
    all_goals (skip)
    all_goals (try (conv=>whnf))
    all_goals (skip)
    all_goals first
      | exact hK _ (c3 (by grind))
      | exact ⟨(),(by (refine wk_auto ?_; refine Sel4.mk rfl rfl ?_ ?_ <;> (repeat' (first | exact True.intro | exact rfl | exact Or.inl rfl | exact Or.inr rfl | refine And.intro ?_ ?_ | fail)))),by grind⟩
  have c3b : (p.read = false ∧ p.pos = (n.ins.length : Int) ∧ 0 < n.ins.length) → V.int .i64 3 = V.int .i64 (checkProc n p):=fun h=>by unfold checkProc; rw [if_neg h1,if_neg h2,if_pos h]
  conv=>whnf
  refine join_live [3] (σ:=Unit) (fun _=>[]) (fun _=>[.box (nodeV n).cells,.box (procV p).cells]) (fun _=>¬ (p.read = false ∧ p.pos = (n.ins.length : Int) ∧ 0 < n.ins.length)) ?_
  conv=>whnf
  refine ⟨?_,fun _ h3=>?_⟩
  · conv=>whnf
    repeat' first | (refine fun (b : Bool) hb=>?_; cases b <;> (first | exact absurd hb (by decide) | exact Bool.noConfusion (show true = false from hb) | exact Bool.noConfusion (show false = true from hb) | skip)) | (refine fun (hl : _ ≤ MAXL)=>?_) | fail
    all_goals (try (conv=>whnf))
    all_goals (skip)
    all_goals (try (conv=>whnf))
    all_goals (skip)
    all_goals (try (conv=>whnf))
    all_goals (skip)
    all_goals first
      | exact hK _ (c3b (by grind))
      | exact ⟨(),(by (refine wk_auto ?_; refine Sel4.mk rfl rfl ?_ ?_ <;> (repeat' (first | exact True.intro | exact rfl | exact Or.inl rfl | exact Or.inr rfl | refine And.intro ?_ ?_ | fail)))),by grind⟩
  conv=>whnf
  skip
  refine ⟨List Bs,lbV,[p.got,p.out],LeL.refl _,?_⟩
  skip
  refine ⟨[p.got,p.out],rfl,?_,?_⟩
  · simp; omega
  have hfl : [p.got,p.out].flatten = p.got ++ p.out:=by simp
  generalize [p.got,p.out].flatten = L at hfl
  repeat' first | (refine fun (hl : _ ≤ MAXL)=>?_) | fail
  conv=>whnf
  refine loop_live [64,65] (σ:=Nat) (fun k=>[(66,.int .i64 k)]) (fun _=>[.box (nodeV n).cells,.box (procV p).cells]) (fun k=>k ≤ L.length ∧ ∀ b ∈ L.take k,b.length ≤ 40000) (fun k=>L.length - k) 0 ?_
  conv=>whnf
  refine ⟨(by (refine wk_auto ?_; refine Sel4.mk rfl rfl ?_ ?_ <;> (repeat' (first | exact True.intro | exact rfl | exact Or.inl rfl | exact Or.inr rfl | refine And.intro ?_ ?_ | fail)))),⟨Nat.zero_le _,by simp⟩,fun k hk=>?_⟩
  obtain ⟨hk,hno⟩:=hk
  repeat' first | (refine fun (b : Bool) hb=>?_; cases b <;> (first | exact absurd hb (by decide) | exact Bool.noConfusion (show true = false from hb) | exact Bool.noConfusion (show false = true from hb) | skip)) | (refine fun (hl : _ ≤ MAXL)=>?_) | refine And.intro (a:=I64 _) ?_ ?_ | refine ⟨_,rfl,?_,rfl,?_⟩ | fail
  · have hkl : k = L.length := by
      have h:=of_decide_eq_false (by assumption : decide ((k : Int) < (L.length : Int)) = false)
      omega
    subst hkl
    rw [List.take_length] at hno
    conv=>whnf
    skip
    refine hK _ ?_
    unfold checkProc
    rw [if_neg h1,if_neg h2,if_neg h3,← hfl,if_neg]
    rw [List.any_eq_true]
    rintro ⟨b,hb,hd⟩
    have:=of_decide_eq_true hd
    have:=hno b hb
    omega
  · have h:=of_decide_eq_true (by assumption : decide ((k : Int) < (L.length : Int)) = true)
    omega
  all_goals
    have hk2 : k < L.length:=by
      have h:=of_decide_eq_true (by assumption : decide ((k : Int) < (L.length : Int)) = true)
      omega
  · have hM : L.length ≤ MAXL:=by assumption
    unfold I64; unfold MAXL at hM; omega
  · refine ⟨k + 1,(by (refine wk_auto ?_; refine Sel4.mk rfl rfl ?_ ?_ <;> (repeat' (first | exact True.intro | exact rfl | exact Or.inl rfl | exact Or.inr rfl | refine And.intro ?_ ?_ | fail)))),⟨hk2,fun b hb=>?_⟩,by omega⟩
    rw [List.take_succ_eq_append_getElem hk2] at hb
    rcases List.mem_append.1 hb with hb | hb
    · exact hno b hb
    · rw [List.mem_singleton.1 hb]
      have h:=of_decide_eq_false (by assumption : decide (40000 < (L[k].length : Int)) = false)
      omega
  · conv=>whnf
    skip
    refine hK _ ?_
    unfold checkProc
    rw [if_neg h1,if_neg h2,if_neg h3,← hfl,if_pos]
    rw [List.any_eq_true]
    refine ⟨L[k],List.getElem_mem hk2,decide_eq_true ?_⟩
    have h:=of_decide_eq_true (by assumption : decide (40000 < (L[k].length : Int)) = true)
    omega
end Gv
namespace Gv
variable [Glob] [Laid]
theorem word1_ca : callable Tryz.prog 135 = true:=by kernel_rfl
def word1_S : Spec:=fun args K=>∃ (c : UInt8),args = [byteV c] ∧ K (.bool (!wordByte c))
noncomputable def word1_lib : List (Nat × Spec):=[]
noncomputable def word1_fns : List (Nat × FnI):=[]
noncomputable def word1_prims : List (Nat × PSpec):=[]
theorem word1_E : EnvOK ⟨Tryz.prog,tys,word1_lib,word1_fns,word1_prims,[]⟩:=env_ok mixed0 tys0 .nil .nil .nil rfl
set_option maxHeartbeats 4000000 in
theorem word1_ok : Pure Tryz.prog 135 word1_S:=by
  refine pure_by word1_E 6 (fi:={fn:=Tryz.f135,hooks:=[],draws:=[]}) ⟨Tryz.func135,by kernel_rfl,by kernel_rfl⟩ ?_
  rintro _ K ⟨c,rfl,hK⟩
  replace hK : ∀ r,r = .bool (!wordByte c) → K r:=fun r h=>h ▸ hK
  repeat' first | (refine fun (b : Bool) hb=>?_; cases b <;> (first | exact absurd hb (by decide) | exact Bool.noConfusion (show true = false from hb) | exact Bool.noConfusion (show false = true from hb) | skip)) | fail
  all_goals (refine hK _ ?_; unfold wordByte; congr 1; grind)
end Gv
namespace Gv
variable [Glob] [Laid]
theorem word_ca : callable Tryz.prog 78 = true:=by kernel_rfl
def word_S : Spec:=fun args K=>∃ (s : Bs),args = [.str s] ∧ K (.bool (isWord s))
noncomputable def word_lib : List (Nat × Spec):=[(135,word1_S)]
noncomputable def word_fns : List (Nat × FnI):=[(134,{fn:=Tryz.f134,hooks:=[],draws:=[]}),(170,{fn:=Tryz.f170,hooks:=[],draws:=[]})]
noncomputable def word_prims : List (Nat × PSpec):=[]
theorem word_E : EnvOK ⟨Tryz.prog,tys,word_lib,word_fns,word_prims,[]⟩:=env_ok mixed0 tys0 (.cons word1_ca word1_ok .nil) (.cons (by kernel_rfl) ⟨Tryz.func134,by kernel_rfl,by kernel_rfl⟩ (.cons (by kernel_rfl) ⟨Tryz.func170,by kernel_rfl,by kernel_rfl⟩ .nil)) .nil rfl
set_option maxHeartbeats 4000000 in
theorem word_ok : Pure Tryz.prog 78 word_S:=by
  refine pure_by word_E 6 (fi:={fn:=Tryz.f78,hooks:=[],draws:=[]}) ⟨Tryz.func78,by kernel_rfl,by kernel_rfl⟩ ?_
  rintro _ K ⟨s,rfl,hK⟩
  replace hK : ∀ r,r = .bool (isWord s) → K r:=fun r h=>h ▸ hK
  repeat' first | (refine fun (b : Bool) hb=>?_; cases b <;> (first | exact absurd hb (by decide) | exact Bool.noConfusion (show true = false from hb) | exact Bool.noConfusion (show false = true from hb) | skip)) | (refine fun (hl : _ ≤ MAXL)=>?_) | refine And.intro (a:=_ ≤ 140737488355328) ?_ ?_ | refine Opt.a ?_ | fail
  · refine hK _ ?_
    have h : (!decide (s = [])) = false:=by assumption
    have : s = []:=by simpa using h
    subst this; rfl
  · refine hK _ ?_
    have h : decide ((s.length : Int) ≤ 12) = false:=by assumption
    have h2 : ¬ s.length ≤ 12:=by
      intro h3
      have : ((s.length : Int) ≤ 12):=by omega
      simp [this] at h
    simp [isWord,h2]
  · have h : decide ((s.length : Int) ≤ 12) = true:=by assumption
    have h2 : (s.length : Int) ≤ 12:=by simpa using h
    omega
  have hw : ∃ t : Bool,isWord s = t ∧ t = s.all wordByte:=by
    have h : (!decide (s = [])) = true:=by assumption
    have h1 : s ≠ []:=by simpa using h
    have h : decide ((s.length : Int) ≤ 12) = true:=by assumption
    have h2 : (s.length : Int) ≤ 12:=by simpa using h
    have h3 : s.length ≤ 12:=by omega
    exact ⟨s.all wordByte,by simp [isWord,h1,h3],rfl⟩
  obtain ⟨t,ht,hta⟩:=hw
  rw [ht] at hK
  conv=>whnf
  refine loop_live [0,1,7] (σ:=Nat) (fun i=>[(8,.int .i64 i)]) (fun _=>[]) (fun i=>i ≤ s.length ∧ (s.take i).all wordByte = true) (fun i=>s.length - i) 0 ?_
  conv=>whnf
  refine ⟨(by (refine wk_sel [] rfl rfl ?_ ?_ <;> (repeat' (first | exact True.intro | exact rfl | exact Or.inl rfl | exact Or.inr rfl | refine And.intro ?_ ?_ | fail)))),⟨Nat.zero_le _,rfl⟩,fun i hi=>?_⟩
  obtain ⟨hi,hI⟩:=hi
  repeat' first | (refine fun (b : Bool) hb=>?_; cases b <;> (first | exact absurd hb (by decide) | exact Bool.noConfusion (show true = false from hb) | exact Bool.noConfusion (show false = true from hb) | skip)) | refine ⟨_,rfl,?_,rfl,?_⟩ | fail
  · have e : s.take i = s:=List.take_of_length_le (by grind)
    rw [e] at hI
    refine hK _ ?_
    rw [hta,hI]
    rfl
  · grind
  have hi2 : i < s.length:=by grind
  refine ⟨s[i],rfl,?_⟩
  have hts : s.take (i + 1) = s.take i ++ [s[i]]:=List.take_succ_eq_append_getElem hi2
  repeat' first | (refine fun (b : Bool) hb=>?_; cases b <;> (first | exact absurd hb (by decide) | exact Bool.noConfusion (show true = false from hb) | exact Bool.noConfusion (show false = true from hb) | skip)) | refine And.intro (a:=I64 _) ?_ ?_ | fail
  · (first | omega | (unfold I64; omega) | (simp only [List.length_append,List.length_map,List.length_cons,List.length_nil,Nat.mul_one,Int.ofNat_eq_natCast] at *; omega) | (dsimp only at *; omega) | (unfold I64; dsimp only at *; omega) | (unfold I64; grind) | grind)
  · refine ⟨i + 1,(by (refine wk_sel [] rfl rfl ?_ ?_ <;> (repeat' (first | exact True.intro | exact rfl | exact Or.inl rfl | exact Or.inr rfl | refine And.intro ?_ ?_ | fail)))),⟨by omega,?_⟩,by omega⟩
    rw [hts,List.all_append,hI]
    grind
  · refine hK _ ?_
    have h1 : wordByte s[i] = false:=by grind
    have h2 : s.all wordByte = false:=by
      rw [List.all_eq_false]
      exact ⟨s[i],List.getElem_mem hi2,by simp [h1]⟩
    rw [hta,h2]
    simp
end Gv
namespace Gv
variable [Glob] [Laid]
theorem ccheck_ca : callable Tryz.prog 132 = true:=by kernel_rfl
def ccheck_S : Spec:=fun args K=>∃ (k : Int) (s : Bs) (n : Int),args = [.agg [.int .i64 k,.str s,.int .i64 n]] ∧ K (.int .i64 (checkCmd ⟨k,s,n⟩))
noncomputable def ccheck_lib : List (Nat × Spec):=[(78,word_S)]
noncomputable def ccheck_fns : List (Nat × FnI):=[]
noncomputable def ccheck_prims : List (Nat × PSpec):=[]
theorem ccheck_E : EnvOK ⟨Tryz.prog,tys,ccheck_lib,ccheck_fns,ccheck_prims,[]⟩:=env_ok mixed0 tys0 (.cons word_ca word_ok .nil) .nil .nil rfl
set_option maxHeartbeats 4000000 in
theorem ccheck_ok : Pure Tryz.prog 132 ccheck_S:=by
  refine pure_by ccheck_E 6 (fi:={fn:=Tryz.f132,hooks:=[4,5,7,9],draws:=[]}) ⟨Tryz.func132,by kernel_rfl,by kernel_rfl⟩ ?_
  rintro _ K ⟨k,s,n,rfl,hK⟩
  replace hK : ∀ r,r = .int .i64 (checkCmd ⟨k,s,n⟩) → K r:=fun r h=>h ▸ hK
  obtain ⟨uw,huw⟩ : ∃ b,useWord ⟨k,s,n⟩ = b:=⟨_,rfl⟩
  obtain ⟨un,hun⟩ : ∃ b,useN ⟨k,s,n⟩ = b:=⟨_,rfl⟩
  have hc : checkCmd ⟨k,s,n⟩ = if k < 1 ∨ 10 < k then 4 else if (uw = false ∧ s ≠ []) ∨ (un = false ∧ n ≠ 0) then 4 else if un = true ∧ (n < 1 ∨ 1000 < n) then 3 else if (uw = true ∧ isWord s = false) ∨ (k = 3 ∧ s.length ≠ 2) then 1 else 0:=by
    unfold checkCmd
    rw [huw,hun]
  rw [hc] at hK
  clear hc
  simp only [useWord] at huw
  simp only [useN] at hun
  repeat' first | (refine fun (b : Bool) hb=>?_; cases b <;> (first | exact absurd hb (by decide) | exact Bool.noConfusion (show true = false from hb) | exact Bool.noConfusion (show false = true from hb) | skip)) | fail
  rotate_left
  · exact hK _ (by rw [if_pos (by grind)])
  · exact hK _ (by rw [if_pos (by grind)])
  have h1 : ¬ (k < 1 ∨ 10 < k):=by grind
  simp only [h1,if_false] at hK
  conv=>whnf
  refine join_live [1] (σ:=Bool) (fun b=>[(3,.bool b)]) (fun _=>[.box [.int .i64 k,.str s,.int .i64 n]]) (fun b=>b = uw) ?_
  conv=>whnf
  refine ⟨?_,fun b hbu=>?_⟩
  · repeat' first | (refine fun (b : Bool) hb=>?_; cases b <;> (first | exact absurd hb (by decide) | exact Bool.noConfusion (show true = false from hb) | exact Bool.noConfusion (show false = true from hb) | skip)) | fail
    all_goals (refine ⟨_,by refine wk_sel [some 0] rfl rfl ?_ ?_ <;> (repeat' (first | exact True.intro | exact rfl | exact Or.inl rfl | exact Or.inr rfl | refine And.intro ?_ ?_ | fail)),?_⟩; rw [← huw]; simp_all)
  obtain rfl : uw = b:=hbu.symm
  clear huw
  conv=>whnf
  refine join_live [1,3] (σ:=Bool) (fun b=>[(4,.bool b)]) (fun _=>[.box [.int .i64 k,.str s,.int .i64 n]]) (fun b=>b = un) ?_
  conv=>whnf
  refine ⟨?_,fun b hbu=>?_⟩
  · repeat' first | (refine fun (b : Bool) hb=>?_; cases b <;> (first | exact absurd hb (by decide) | exact Bool.noConfusion (show true = false from hb) | exact Bool.noConfusion (show false = true from hb) | skip)) | fail
    all_goals (refine ⟨_,by refine wk_sel [some 0] rfl rfl ?_ ?_ <;> (repeat' (first | exact True.intro | exact rfl | exact Or.inl rfl | exact Or.inr rfl | refine And.intro ?_ ?_ | fail)),?_⟩; rw [← hun]; simp_all)
  obtain rfl : un = b:=hbu.symm
  clear hun
  conv=>whnf
  refine join_live [1,3,4] (σ:=Unit) (fun b=>[]) (fun _=>[.box [.int .i64 k,.str s,.int .i64 n]]) (fun b=>¬ ((uw = false ∧ s ≠ []) ∨ (un = false ∧ n ≠ 0))) ?_
  conv=>whnf
  refine ⟨?_,fun _ h2=>?_⟩
  · repeat' first | (refine fun (b : Bool) hb=>?_; cases b <;> (first | exact absurd hb (by decide) | exact Bool.noConfusion (show true = false from hb) | exact Bool.noConfusion (show false = true from hb) | skip)) | fail
    all_goals (conv=>whnf)
    all_goals first
      | (refine ⟨(),(by (refine wk_sel [some 0] rfl rfl ?_ ?_ <;> (repeat' (first | exact True.intro | exact rfl | exact Or.inl rfl | exact Or.inr rfl | refine And.intro ?_ ?_ | fail)))),?_⟩; simp_all; done)
      | (refine hK _ ?_; rw [if_pos]; simp_all; done)
  simp only [h2,if_false] at hK
  conv=>whnf
  refine join_live [1,3] (σ:=Unit) (fun b=>[]) (fun _=>[.box [.int .i64 k,.str s,.int .i64 n]]) (fun b=>¬ (un = true ∧ (n < 1 ∨ 1000 < n))) ?_
  conv=>whnf
  refine ⟨?_,fun _ h3=>?_⟩
  · repeat' first | (refine fun (b : Bool) hb=>?_; cases b <;> (first | exact absurd hb (by decide) | exact Bool.noConfusion (show true = false from hb) | exact Bool.noConfusion (show false = true from hb) | skip)) | fail
    all_goals (conv=>whnf)
    all_goals first
      | (refine ⟨(),(by (refine wk_sel [some 0] rfl rfl ?_ ?_ <;> (repeat' (first | exact True.intro | exact rfl | exact Or.inl rfl | exact Or.inr rfl | refine And.intro ?_ ?_ | fail)))),?_⟩; simp_all; done)
      | (refine hK _ ?_; rw [if_pos]; simp_all; done)
  simp only [h3,if_false] at hK
  repeat' first | (refine fun (b : Bool) hb=>?_; cases b <;> (first | exact absurd hb (by decide) | exact Bool.noConfusion (show true = false from hb) | exact Bool.noConfusion (show false = true from hb) | skip)) | (refine fun (hl : _ ≤ MAXL)=>?_) | fail
  all_goals (conv=>whnf)
  any_goals first
      | (refine hK _ ?_; rw [if_pos]; simp_all; done)
      | (refine hK _ ?_; rw [if_neg]; simp_all; done)
  refine ⟨s,rfl,?_⟩
  repeat' first | (refine fun (b : Bool) hb=>?_; cases b <;> (first | exact absurd hb (by decide) | exact Bool.noConfusion (show true = false from hb) | exact Bool.noConfusion (show false = true from hb) | skip)) | (refine fun (hl : _ ≤ MAXL)=>?_) | fail
  all_goals (conv=>whnf)
  any_goals first
      | (refine hK _ ?_; rw [if_pos]; simp_all; done)
      | (refine hK _ ?_; rw [if_neg]; simp_all; done)
  · refine hK _ ?_
    rw [if_neg]
    grind
  · refine hK _ ?_
    rw [if_pos]
    grind
end Gv
namespace Gv
variable [Glob] [Laid]
theorem checkJ_ca : callable Tryz.prog 166 = true:=by kernel_rfl
def checkJ_S : Spec:=fun args K=>∃ (h : Int) (c : Cmd),args = [.int .i64 h,cmdV c] ∧ K (.int .i64 (checkJoin h c))
noncomputable def checkJ_lib : List (Nat × Spec):=[(132,ccheck_S)]
noncomputable def checkJ_fns : List (Nat × FnI):=[]
noncomputable def checkJ_prims : List (Nat × PSpec):=[]
theorem checkJ_E : EnvOK ⟨Tryz.prog,tys,checkJ_lib,checkJ_fns,checkJ_prims,[(38,[true,false,true])]⟩:=env_ok mixed0 tys0 (.cons ccheck_ca ccheck_ok .nil) .nil .nil (by kernel_rfl)
set_option maxHeartbeats 4000000 in
theorem checkJ_ok : Pure Tryz.prog 166 checkJ_S:=by
  refine pure_by checkJ_E 6 (fi:={fn:=Tryz.f166,hooks:=[],draws:=[]}) ⟨Tryz.func166,by kernel_rfl,by kernel_rfl⟩ ?_
  rintro _ K ⟨h,c,rfl,hK⟩
  replace hK : ∀ r,r = .int .i64 (checkJoin h c) → K r:=fun r h=>h ▸ hK
  obtain ⟨ck,cw,cn⟩:=c
  obtain ⟨q,hq⟩ : ∃ q,checkCmd ⟨ck,cw,cn⟩ = q:=⟨_,rfl⟩
  unfold checkJoin at hK
  rw [hq] at hK
  repeat' first | (refine fun (b : Bool) hb=>?_; cases b <;> (first | exact absurd hb (by decide) | exact Bool.noConfusion (show true = false from hb) | exact Bool.noConfusion (show false = true from hb) | skip)) | fail
  · have h1 : ¬ h < 1:=of_decide_eq_false (by assumption)
    have h2 : ¬ 4 < h:=of_decide_eq_false (by assumption)
    have h3 : h = 4:=by
      have h3 : (!decide (h = 4)) = false:=by assumption
      simpa using h3
    refine ⟨ck,cw,cn,rfl,?_⟩
    rw [hq]
    skip
    refine hK _ ?_
    rw [if_neg (by omega),if_neg (by omega)]
  · have h1 : ¬ h < 1:=of_decide_eq_false (by assumption)
    have h2 : ¬ 4 < h:=of_decide_eq_false (by assumption)
    have h3 : ¬ h = 4:=by
      have h3 : (!decide (h = 4)) = true:=by assumption
      simpa using h3
    have hz : (⟨ck,cw,cn⟩ : Cmd) = zCmd:=by
      unfold zCmd
      grind
    conv=>whnf
    refine hK _ ?_
    rw [if_neg (by omega),if_pos h3,if_neg (fun e=>e hz)]
  · have h1 : ¬ h < 1:=of_decide_eq_false (by assumption)
    have h2 : ¬ 4 < h:=of_decide_eq_false (by assumption)
    have h3 : ¬ h = 4:=by
      have h3 : (!decide (h = 4)) = true:=by assumption
      simpa using h3
    have hz : (⟨ck,cw,cn⟩ : Cmd) ≠ zCmd:=by
      unfold zCmd
      grind
    conv=>whnf
    refine hK _ ?_
    rw [if_neg (by omega),if_pos h3,if_pos hz]
  · have h2 : 4 < h:=of_decide_eq_true (by assumption)
    conv=>whnf
    refine hK _ ?_
    rw [if_pos (by omega)]
  · have h2 : h < 1:=of_decide_eq_true (by assumption)
    conv=>whnf
    refine hK _ ?_
    rw [if_pos (by omega)]
end Gv
namespace Gv
variable [Glob] [Laid]
theorem cmd_ext {a b : Cmd} (h1 : a.kind = b.kind) (h2 : a.word = b.word) (h3 : a.n = b.n) : a = b:=by
  cases a; cases b; simp_all
theorem node_ext {a b : Gp.Node} (h1 : a.kind = b.kind) (h2 : a.file = b.file) (h3 : a.c = b.c) (h4 : a.how = b.how) (h5 : a.wide = b.wide) (h6 : a.ins = b.ins) : a = b:=by
  cases a; cases b; simp_all
theorem checkN_ca : callable Tryz.prog 125 = true:=by kernel_rfl
def checkN_S : Spec:=fun args K=>∃ n : Gp.Node,args = [nodeV n] ∧ K (.int .i64 (checkN n))
noncomputable def checkN_lib : List (Nat × Spec):=[(78,word_S),(132,ccheck_S),(166,checkJ_S)]
noncomputable def checkN_fns : List (Nat × FnI):=[]
noncomputable def checkN_prims : List (Nat × PSpec):=[]
theorem checkN_E : EnvOK ⟨Tryz.prog,tys,checkN_lib,checkN_fns,checkN_prims,[(38,[true,false,true])]⟩:=env_ok mixed0 tys0 (.cons word_ca word_ok (.cons ccheck_ca ccheck_ok (.cons checkJ_ca checkJ_ok .nil))) .nil .nil (by kernel_rfl)
set_option maxHeartbeats 8000000 in
theorem checkN_ok : Pure Tryz.prog 125 checkN_S:=by
  refine pure_by checkN_E 6 (fi:={fn:=Tryz.f125,hooks:=[23],draws:=[(20,[0,1,0,4,3,19,63,127])]}) ⟨Tryz.func125,by kernel_rfl,by kernel_rfl⟩ ?_
  rintro _ K ⟨n,rfl,hK⟩
  replace hK : ∀ r,r = .int .i64 (checkN n) → K r:=fun r h=>h ▸ hK
  repeat' first | (refine fun (hl : _ ≤ MAXL)=>?_) | fail
  conv=>whnf
  refine join_live [1,3] (σ:=Unit) (fun _=>[(4,.int .i64 (errN n)),(5,.bool (insN n))]) (fun _=>[.box (nodeV n).cells,.box (nodeV (wantN n)).cells]) (fun _=>1 ≤ n.kind ∧ n.kind ≤ 5) ?_
  conv=>whnf
  refine ⟨?_,fun _ hk=>?_⟩
  · repeat' first | exact True.intro | (refine fun (b : Bool) hb=>?_; cases b <;> (first | exact absurd hb (by decide) | exact Bool.noConfusion (show true = false from hb) | exact Bool.noConfusion (show false = true from hb) | skip)) | refine ⟨_,⟨rfl,rfl⟩,?_⟩ | refine ⟨_,_,⟨rfl,rfl⟩,?_⟩ | refine And.intro (a:=chkPend _ _ _ _ _ _) ?_ ?_ | refine And.intro (a:=chkPast _ _ _ _ _ _ _ _) ?_ ?_ | refine ⟨⟨rfl,rfl⟩,?_⟩ | fail
    all_goals first | exact absurd ((by assumption : decide (n.kind = 1) = true).symm.trans (by assumption : decide (n.kind = 1) = false)) (by decide) | skip
    · have h1 : ¬ n.kind = 1:=of_decide_eq_false (by assumption)
      have h5 : ¬ n.kind = 5:=of_decide_eq_false (by assumption)
      have h2 : ¬ n.kind = 2:=of_decide_eq_false (by assumption)
      have h3 : ¬ n.kind = 3:=of_decide_eq_false (by assumption)
      have h4 : ¬ n.kind = 4:=of_decide_eq_false (by assumption)
      conv=>whnf
      refine hK _ ?_
      unfold checkN
      rw [if_pos (by omega)]
    · have h4 : n.kind = 4:=of_decide_eq_true (by assumption)
      have e1 : errN n = checkJoin n.how n.c:=by unfold errN; rw [if_neg (by omega),if_neg (by omega),if_neg (by omega)]
      have e2 : insN n = (decide ((1 : Int) ≤ (n.ins.length : Int)) && decide ((n.ins.length : Int) ≤ 5)):=by unfold insN; rw [if_neg (by omega),if_pos h4]
      have e3 : wantN n = ⟨n.kind,[],n.c,n.how,0,n.ins⟩:=by unfold wantN; simp [h4]
      conv=>whnf
      refine ⟨n.how,n.c,rfl,?_⟩
      repeat' first | (refine fun (b : Bool) hb=>?_; cases b <;> (first | exact absurd hb (by decide) | exact Bool.noConfusion (show true = false from hb) | exact Bool.noConfusion (show false = true from hb) | skip)) | (refine fun (hl : _ ≤ MAXL)=>?_) | fail
      all_goals (conv=>whnf)
      · refine ⟨(),?_,by omega⟩
        rw [e1,e2,e3,(by assumption : decide ((1 : Int) ≤ (n.ins.length : Int)) = false),Bool.false_and]
        exact (by (refine wk_auto ?_; refine Sel4.mk rfl rfl ?_ ?_ <;> (repeat' (first | exact True.intro | exact rfl | exact Or.inl rfl | exact Or.inr rfl | refine And.intro ?_ ?_ | fail))))
      · refine ⟨(),?_,by omega⟩
        rw [e1,e2,e3,(by assumption : decide ((1 : Int) ≤ (n.ins.length : Int)) = true),Bool.true_and]
        exact (by (refine wk_auto ?_; refine Sel4.mk rfl rfl ?_ ?_ <;> (repeat' (first | exact True.intro | exact rfl | exact Or.inl rfl | exact Or.inr rfl | refine And.intro ?_ ?_ | fail))))
    · have h3 : n.kind = 3:=of_decide_eq_true (by assumption)
      have e1 : errN n = checkCmd n.c:=by unfold errN; rw [if_neg (by omega),if_neg (by omega),if_pos h3]
      have e2 : insN n = decide ((n.ins.length : Int) = 1):=by unfold insN; rw [if_neg (by omega),if_neg (by omega)]
      have e3 : wantN n = ⟨n.kind,[],n.c,0,0,n.ins⟩:=by unfold wantN; simp [h3]
      conv=>whnf
      refine ⟨n.c.kind,n.c.word,n.c.n,rfl,?_⟩
      conv=>whnf
      refine ⟨(),?_,by omega⟩
      rw [e1,e2,e3]
      exact (by (refine wk_auto ?_; refine Sel4.mk rfl rfl ?_ ?_ <;> (repeat' (first | exact True.intro | exact rfl | exact Or.inl rfl | exact Or.inr rfl | refine And.intro ?_ ?_ | fail))))
    · have h2 : n.kind = 2:=of_decide_eq_true (by assumption)
      have e1 : errN n = 0:=by unfold errN; rw [if_neg (by omega),if_pos h2,if_neg (by have:=of_decide_eq_false (by assumption : decide (n.wide < 1) = false); have:=of_decide_eq_false (by assumption : decide (5 < n.wide) = false); omega)]
      have e2 : insN n = decide ((n.ins.length : Int) = 1):=by unfold insN; rw [if_neg (by omega),if_neg (by omega)]
      have e3 : wantN n = ⟨n.kind,[],zCmd,0,n.wide,n.ins⟩:=by unfold wantN; simp [h2]
      conv=>whnf
      refine ⟨(),?_,by omega⟩
      rw [e1,e2,e3]
      exact (by (refine wk_auto ?_; refine Sel4.mk rfl rfl ?_ ?_ <;> (repeat' (first | exact True.intro | exact rfl | exact Or.inl rfl | exact Or.inr rfl | refine And.intro ?_ ?_ | fail))))
    · have h2 : n.kind = 2:=of_decide_eq_true (by assumption)
      have e1 : errN n = 3:=by unfold errN; rw [if_neg (by omega),if_pos h2,if_pos (.inr (of_decide_eq_true (by assumption : decide (5 < n.wide) = true)))]
      have e2 : insN n = decide ((n.ins.length : Int) = 1):=by unfold insN; rw [if_neg (by omega),if_neg (by omega)]
      have e3 : wantN n = ⟨n.kind,[],zCmd,0,n.wide,n.ins⟩:=by unfold wantN; simp [h2]
      conv=>whnf
      refine ⟨(),?_,by omega⟩
      rw [e1,e2,e3]
      exact (by (refine wk_auto ?_; refine Sel4.mk rfl rfl ?_ ?_ <;> (repeat' (first | exact True.intro | exact rfl | exact Or.inl rfl | exact Or.inr rfl | refine And.intro ?_ ?_ | fail))))
    · have h2 : n.kind = 2:=of_decide_eq_true (by assumption)
      have e1 : errN n = 3:=by unfold errN; rw [if_neg (by omega),if_pos h2,if_pos (.inl (of_decide_eq_true (by assumption : decide (n.wide < 1) = true)))]
      have e2 : insN n = decide ((n.ins.length : Int) = 1):=by unfold insN; rw [if_neg (by omega),if_neg (by omega)]
      have e3 : wantN n = ⟨n.kind,[],zCmd,0,n.wide,n.ins⟩:=by unfold wantN; simp [h2]
      conv=>whnf
      refine ⟨(),?_,by omega⟩
      rw [e1,e2,e3]
      exact (by (refine wk_auto ?_; refine Sel4.mk rfl rfl ?_ ?_ <;> (repeat' (first | exact True.intro | exact rfl | exact Or.inl rfl | exact Or.inr rfl | refine And.intro ?_ ?_ | fail))))
    · have h5 : n.kind = 5:=of_decide_eq_true (by assumption)
      have e1 : errN n = if isWord n.file = true then 0 else 1:=by unfold errN; rw [if_pos (.inr h5)]
      have e2 : insN n = ((decide ((n.ins.length : Int) = 1) == decide (n.kind = 5)) && decide ((n.ins.length : Int) < 2)):=by unfold insN; rw [if_pos (.inr h5)]
      have e3 : wantN n = ⟨n.kind,n.file,zCmd,0,0,n.ins⟩:=by unfold wantN; simp [h5]
      conv=>whnf
      refine ⟨n.file,rfl,?_⟩
      repeat' first | (refine fun (b : Bool) hb=>?_; cases b <;> (first | exact absurd hb (by decide) | exact Bool.noConfusion (show true = false from hb) | exact Bool.noConfusion (show false = true from hb) | skip)) | (refine fun (hl : _ ≤ MAXL)=>?_) | fail
      all_goals (conv=>whnf)
      all_goals refine ⟨(),?_,by omega⟩
      all_goals rw [e1,e2,e3]
      all_goals first | rw [(by assumption : (decide ((n.ins.length : Int) = 1) == decide (n.kind = 5)) = false),Bool.false_and] | rw [(by assumption : (decide ((n.ins.length : Int) = 1) == decide (n.kind = 5)) = true),Bool.true_and]
      all_goals first | rw [if_neg (by simpa using (by assumption : (!isWord n.file) = true))] | rw [if_pos (by simpa using (by assumption : (!isWord n.file) = false))]
      all_goals exact (by (refine wk_auto ?_; refine Sel4.mk rfl rfl ?_ ?_ <;> (repeat' (first | exact True.intro | exact rfl | exact Or.inl rfl | exact Or.inr rfl | refine And.intro ?_ ?_ | fail))))
    · have h5 : n.kind = 1:=of_decide_eq_true (by assumption)
      have e1 : errN n = if isWord n.file = true then 0 else 1:=by unfold errN; rw [if_pos (.inl h5)]
      have e2 : insN n = ((decide ((n.ins.length : Int) = 1) == decide (n.kind = 5)) && decide ((n.ins.length : Int) < 2)):=by unfold insN; rw [if_pos (.inl h5)]
      have e3 : wantN n = ⟨n.kind,n.file,zCmd,0,0,n.ins⟩:=by unfold wantN; simp [h5]
      conv=>whnf
      refine ⟨n.file,rfl,?_⟩
      repeat' first | (refine fun (b : Bool) hb=>?_; cases b <;> (first | exact absurd hb (by decide) | exact Bool.noConfusion (show true = false from hb) | exact Bool.noConfusion (show false = true from hb) | skip)) | (refine fun (hl : _ ≤ MAXL)=>?_) | fail
      all_goals (conv=>whnf)
      all_goals refine ⟨(),?_,by omega⟩
      all_goals rw [e1,e2,e3]
      all_goals first | rw [(by assumption : (decide ((n.ins.length : Int) = 1) == decide (n.kind = 5)) = false),Bool.false_and] | rw [(by assumption : (decide ((n.ins.length : Int) = 1) == decide (n.kind = 5)) = true),Bool.true_and]
      all_goals first | rw [if_neg (by simpa using (by assumption : (!isWord n.file) = true))] | rw [if_pos (by simpa using (by assumption : (!isWord n.file) = false))]
      all_goals exact (by (refine wk_auto ?_; refine Sel4.mk rfl rfl ?_ ?_ <;> (repeat' (first | exact True.intro | exact rfl | exact Or.inl rfl | exact Or.inr rfl | refine And.intro ?_ ?_ | fail))))
  · have hce : checkN n = if errN n ≠ 0 then errN n else if insN n = true ∧ n = wantN n then 0 else 4:=by unfold checkN; rw [if_neg (by omega)]
    rw [hce] at hK
    have hw1 : (wantN n).kind = n.kind:=rfl
    have hw2 : (wantN n).ins = n.ins:=rfl
    repeat' first | (refine fun (b : Bool) hb=>?_; cases b <;> (first | exact absurd hb (by decide) | exact Bool.noConfusion (show true = false from hb) | exact Bool.noConfusion (show false = true from hb) | skip)) | fail
    all_goals conv=>whnf
    all_goals refine hK _ (congrArg (V.int .i64) ?_)
    all_goals first | (rw [if_neg (by simpa using (by assumption : (!decide (errN n = 0)) = false))]) | (rw [if_pos (by simpa using (by assumption : (!decide (errN n = 0)) = true))])
    · have f1 : insN n = true:=by simpa using (by assumption : (!insN n) = false)
      have f2 : n.file = (wantN n).file:=by simpa using (by assumption : (!decide (n.file = (wantN n).file)) = false)
      have f3 : n.how = (wantN n).how:=by simpa using (by assumption : (!decide (n.how = (wantN n).how)) = false)
      have f4 : n.wide = (wantN n).wide:=by simpa using (by assumption : (!decide (n.wide = (wantN n).wide)) = false)
      have f5 : n.c = (wantN n).c:=by
        have h:=(by assumption : (!(decide (n.c.kind = (wantN n).c.kind) && (decide (n.c.word = (wantN n).c.word) && (decide (n.c.n = (wantN n).c.n) && true)))) = false)
        have h : n.c.kind = (wantN n).c.kind ∧ n.c.word = (wantN n).c.word ∧ n.c.n = (wantN n).c.n:=by simpa using h
        exact cmd_ext h.1 h.2.1 h.2.2
      rw [if_pos ⟨f1,node_ext rfl f2 f5 f3 f4 rfl⟩]
    · have f4 : ¬ n.wide = (wantN n).wide:=by simpa using (by assumption : (!decide (n.wide = (wantN n).wide)) = true)
      rw [if_neg (fun x=>f4 (congrArg Gp.Node.wide x.2))]
    · have f4 : ¬ n.how = (wantN n).how:=by simpa using (by assumption : (!decide (n.how = (wantN n).how)) = true)
      rw [if_neg (fun x=>f4 (congrArg Gp.Node.how x.2))]
    · have h:=(by assumption : (!(decide (n.c.kind = (wantN n).c.kind) && (decide (n.c.word = (wantN n).c.word) && (decide (n.c.n = (wantN n).c.n) && true)))) = true)
      have f4 : ¬ n.c = (wantN n).c:=fun e=>by
        rw [← e] at h
        simp at h
      rw [if_neg (fun x=>f4 (congrArg Gp.Node.c x.2))]
    · have f4 : ¬ n.file = (wantN n).file:=by simpa using (by assumption : (!decide (n.file = (wantN n).file)) = true)
      rw [if_neg (fun x=>f4 (congrArg Gp.Node.file x.2))]
    · have f4 : ¬ insN n = true:=by simpa using (by assumption : (!insN n) = true)
      rw [if_neg (fun x=>f4 x.1)]
end Gv
namespace Gv
variable [Glob] [Laid]
theorem checkG_ca : callable Tryz.prog 62 = true:=by kernel_rfl
def checkG_S : Spec:=fun args K=>∃ N : List Gp.Node,args = [.agg [.sl nodeV N]] ∧ K (.int .i64 (checkG N))
noncomputable def checkG_lib : List (Nat × Spec):=[(125,checkN_S),(65,outs_S)]
noncomputable def checkG_fns : List (Nat × FnI):=[]
noncomputable def checkG_prims : List (Nat × PSpec):=[]
theorem checkG_E : EnvOK ⟨Tryz.prog,tys,checkG_lib,checkG_fns,checkG_prims,[(47,[true,true])]⟩:=env_ok mixed0 tys0 (.cons checkN_ca checkN_ok (.cons outs_ca outs_ok .nil)) .nil .nil (by kernel_rfl)
set_option maxHeartbeats 80000000 in
theorem checkG_ok : Pure Tryz.prog 62 checkG_S:=by
  refine pure_by checkG_E 6 (fi:={fn:=Tryz.f62,hooks:=[16],draws:=[(14,[0,1,3,7,15,31,15,127,255,511,1023,2047,4095,8191,16383,32767,65535,32767,163839,32767,557055,1998847,4095999,8290303,16777215,33554431])]}) ⟨Tryz.func62,by kernel_rfl,by kernel_rfl⟩ ?_
  rintro _ K ⟨N,rfl,hK⟩
  replace hK : ∀ r,r = .int .i64 (checkG N) → K r:=fun r h=>h ▸ hK
  unfold checkG at hK
  repeat' first | (refine fun (b : Bool) hb=>?_; cases b <;> (first | exact absurd hb (by decide) | exact Bool.noConfusion (show true = false from hb) | exact Bool.noConfusion (show false = true from hb) | skip)) | (refine fun (hl : _ ≤ MAXL)=>?_) | refine ⟨Bool,V.lit,?_⟩ | fail
  rotate_left
  · have h : (60 : Int) < (N.length : Int):=of_decide_eq_true (by assumption)
    rw [if_pos (by omega)] at hK
    exact hK _ rfl
  have h60 : ¬ (60 : Int) < (N.length : Int):=of_decide_eq_false (by assumption)
  rw [if_neg (by omega)] at hK
  conv=>whnf
  refine loop_live [1,3,16,17] (σ:=Nat × Int × Ents) (fun s=>[(18,.int .i64 s.1),(4,.int .i64 s.2.1)]) (fun s=>[.box [.sl nodeV N],.mp 47 4 .pair V.lit s.2.2]) (fun s=>s.1 ≤ N.length ∧ nodesGo N s.1 (N.drop s.1) s.2.1 s.2.2 = nodesGo N 0 N 0 [] ∧ 0 ≤ s.2.1 ∧ s.2.1 ≤ 5 * s.1) (fun s=>N.length - s.1) (0,0,[]) ?_
  conv=>whnf
  refine ⟨(by (refine wk_auto ?_; refine Sel4.mk rfl rfl ?_ ?_ <;> (repeat' (first | exact True.intro | exact rfl | exact Or.inl rfl | exact Or.inr rfl | refine And.intro ?_ ?_ | fail)))),⟨Nat.zero_le _,rfl,by decide,by decide⟩,fun s hs=>?_⟩
  obtain ⟨i,o,u⟩:=s
  obtain ⟨hi,hgo,ho1,ho2⟩:=hs
  dsimp only at hi hgo ho1 ho2
  repeat' first | (refine fun (b : Bool) hb=>?_; cases b <;> (first | exact absurd hb (by decide) | exact Bool.noConfusion (show true = false from hb) | exact Bool.noConfusion (show false = true from hb) | skip)) | (refine fun (hl : _ ≤ MAXL)=>?_) | refine ⟨_,rfl,?_,rfl,?_⟩ | fail
  · have hge : ¬ (i : Int) < (N.length : Int):=of_decide_eq_false (by assumption)
    have h0 : ¬ (N.length : Int) = 0:=of_decide_eq_false (by assumption)
    have h1 : (u.length : Int) = o:=by simpa using (by assumption : (!decide ((u.length : Int) = o)) = false)
    conv=>whnf
    refine hK _ (congrArg (V.int .i64) ?_)
    rw [← hgo,List.drop_eq_nil_of_le (by omega),nodesGo,if_neg (by omega)]
  · have hge : ¬ (i : Int) < (N.length : Int):=of_decide_eq_false (by assumption)
    have h1 : ¬ (u.length : Int) = o:=by simpa using (by assumption : (!decide ((u.length : Int) = o)) = true)
    conv=>whnf
    refine hK _ (congrArg (V.int .i64) ?_)
    rw [← hgo,List.drop_eq_nil_of_le (by omega),nodesGo,if_pos (.inr h1)]
  · have hge : ¬ (i : Int) < (N.length : Int):=of_decide_eq_false (by assumption)
    have h0 : (N.length : Int) = 0:=of_decide_eq_true (by assumption)
    conv=>whnf
    refine hK _ (congrArg (V.int .i64) ?_)
    rw [← hgo,List.drop_eq_nil_of_le (by omega),nodesGo,if_pos (.inl (by omega))]
  · have h : (i : Int) < (N.length : Int):=of_decide_eq_true (by assumption)
    show i < N.length
    omega
  have hlt : i < N.length:=by
    have h : (i : Int) < (N.length : Int):=of_decide_eq_true (by assumption)
    omega
  rw [nodesGo_at hlt] at hgo
  conv=>whnf
  refine ⟨N[i],rfl,?_⟩
  repeat' first | (refine fun (b : Bool) hb=>?_; cases b <;> (first | exact absurd hb (by decide) | exact Bool.noConfusion (show true = false from hb) | exact Bool.noConfusion (show false = true from hb) | skip)) | (refine fun (hl : _ ≤ MAXL)=>?_) | fail
  rotate_left
  · have hcn : ¬ checkN N[i] = 0:=by simpa using (by assumption : (!decide (checkN N[i] = 0)) = true)
    rw [if_pos hcn] at hgo
    conv=>whnf
    exact hK _ (congrArg (V.int .i64) hgo)
  have hcn : checkN N[i] = 0:=by simpa using (by assumption : (!decide (checkN N[i] = 0)) = false)
  rw [if_neg (fun h=>h hcn)] at hgo
  obtain ⟨ho3,ho4⟩:=outsN_bnd hcn
  conv=>whnf
  refine loop_live [1,3,4,5,6,16,17,18,29,30] (σ:=Nat × Ents) (fun s=>[(31,.int .i64 s.1)]) (fun s=>[.box [.sl nodeV N],.mp 47 4 .pair V.lit s.2,.box (nodeV N[i]).cells]) (fun s=>s.1 ≤ N[i].ins.length ∧ portsGo N i (N[i].ins.drop s.1) s.2 = portsGo N i N[i].ins u) (fun s=>N[i].ins.length - s.1) (0,u) ?_
  conv=>whnf
  refine ⟨(by (refine wk_auto ?_; refine Sel4.mk rfl rfl ?_ ?_ <;> (repeat' (first | exact True.intro | exact rfl | exact Or.inl rfl | exact Or.inr rfl | refine And.intro ?_ ?_ | fail)))),⟨Nat.zero_le _,rfl⟩,fun s hs=>?_⟩
  obtain ⟨j,v⟩:=s
  obtain ⟨hj,hpg⟩:=hs
  dsimp only at hj hpg
  repeat' first | (refine fun (b : Bool) hb=>?_; cases b <;> (first | exact absurd hb (by decide) | exact Bool.noConfusion (show true = false from hb) | exact Bool.noConfusion (show false = true from hb) | skip)) | (refine fun (hl : _ ≤ MAXL)=>?_) | refine And.intro (a:=I64 _) ?_ ?_ | refine ⟨_,rfl,?_,rfl,?_⟩ | fail
  · unfold I64; omega
  · have hge : ¬ (j : Int) < (N[i].ins.length : Int):=of_decide_eq_false (by assumption)
    have h5:=(by assumption : (!decide (N[i].kind = 5) == decide ((i : Int) = (N.length : Int) - 1)) = false)
    have h6 : decide (N[i].kind = 5) = decide ((i : Int) = (N.length : Int) - 1):=by simpa using h5
    rw [List.drop_eq_nil_of_le (by omega),portsGo] at hpg
    rw [← hpg,if_neg (fun h=>h rfl),if_neg (fun h=>h h6)] at hgo
    conv=>whnf
    refine ⟨N[i],rfl,?_⟩
    repeat' first | refine And.intro (a:=I64 _) ?_ ?_ | fail
    · show I64 (o + outsN N[i])
      unfold I64; omega
    · show I64 ((i : Int) + 1)
      unfold I64; omega
    conv=>whnf
    exact ⟨(i + 1,o + outsN N[i],v),(by (refine wk_auto ?_; refine Sel4.mk rfl rfl ?_ ?_ <;> (repeat' (first | exact True.intro | exact rfl | exact Or.inl rfl | exact Or.inr rfl | refine And.intro ?_ ?_ | fail)))),⟨hlt,hgo,by dsimp only; omega,by dsimp only; omega⟩,by show N.length - (i + 1) < N.length - i; omega⟩
  · have hge : ¬ (j : Int) < (N[i].ins.length : Int):=of_decide_eq_false (by assumption)
    have h5:=(by assumption : (!decide (N[i].kind = 5) == decide ((i : Int) = (N.length : Int) - 1)) = true)
    have h6 : ¬ decide (N[i].kind = 5) = decide ((i : Int) = (N.length : Int) - 1):=by simpa using h5
    rw [List.drop_eq_nil_of_le (by omega),portsGo] at hpg
    rw [← hpg,if_neg (fun h=>h rfl),if_pos h6] at hgo
    conv=>whnf
    refine hK _ (congrArg (V.int .i64) ?_)
    exact hgo
  · have h : (j : Int) < (N[i].ins.length : Int):=of_decide_eq_true (by assumption)
    show j < N[i].ins.length
    omega
  have hjl : j < N[i].ins.length:=by
    have h : (j : Int) < (N[i].ins.length : Int):=of_decide_eq_true (by assumption)
    omega
  rw [portsGo_at hjl] at hpg
  obtain ⟨p,hp⟩ : ∃ p,N[i].ins[j] = p:=⟨_,rfl⟩
  rw [hp] at hpg
  conv=>whnf
  refine join_live [1,3,4,5,6,9,16,17,18,29,30,31] (σ:=Unit) (fun _=>[]) (fun _=>[.box [.sl nodeV N],.mp 47 4 .pair V.lit v,.box (nodeV N[i]).cells,.box [.int .i64 p.node,.int .i64 p.out]]) (fun _=>¬ (p.node < 0 ∨ (i : Int) ≤ p.node ∨ p.out < 0 ∨ outsN (N.getD p.node.toNat ⟨0,[],zCmd,0,0,[]⟩) ≤ p.out)) ?_
  conv=>whnf
  refine ⟨?_,fun _ hok=>?_⟩
  · rw [hp]
    repeat' first | exact True.intro | (refine fun (b : Bool) hb=>?_; cases b <;> (first | exact absurd hb (by decide) | exact Bool.noConfusion (show true = false from hb) | exact Bool.noConfusion (show false = true from hb) | skip)) | refine ⟨_,⟨rfl,rfl⟩,?_⟩ | refine And.intro (a:=chkPast _ _ _ _ _ _ _ _) ?_ ?_ | fail
    · have h1 : ¬ p.node < 0:=of_decide_eq_false (by assumption)
      have h2 : ¬ (i : Int) ≤ p.node:=of_decide_eq_false (by assumption)
      have h3 : ¬ p.out < 0:=of_decide_eq_false (by assumption)
      obtain ⟨k,hk⟩ : ∃ k : Nat,p.node = k:=⟨p.node.toNat,by omega⟩
      have hkN : k < N.length:=by omega
      have hgk : N.getD p.node.toNat ⟨0,[],zCmd,0,0,[]⟩ = N[k]:=by
        rw [hk,Int.toNat_natCast,List.getD_eq_getElem?_getD,List.getElem?_eq_getElem hkN]
        rfl
      conv=>whnf
      refine ⟨_,⟨k,hk,hkN,rfl,rfl,rfl⟩,?_⟩
      repeat' first | refine ⟨_,⟨rfl,rfl⟩,?_⟩ | fail
      apply Exists.intro
      apply And.intro
      · refine ⟨N[k],rfl,?_⟩
        exact ⟨rfl,rfl⟩
      repeat' first | (refine fun (b : Bool) hb=>?_; cases b <;> (first | exact absurd hb (by decide) | exact Bool.noConfusion (show true = false from hb) | exact Bool.noConfusion (show false = true from hb) | skip)) | refine ⟨_,⟨rfl,rfl⟩,?_⟩ | fail
      · have h4 : ¬ outsN N[k] ≤ p.out:=of_decide_eq_false (by assumption)
        conv=>whnf
        exact ⟨(),(by (refine wk_auto ?_; refine Sel4.mk rfl rfl ?_ ?_ <;> (repeat' (first | exact True.intro | exact rfl | exact Or.inl rfl | exact Or.inr rfl | refine And.intro ?_ ?_ | fail)))),by rw [hgk]; omega⟩
      · have h4 : outsN N[k] ≤ p.out:=of_decide_eq_true (by assumption)
        rw [hgk,if_pos (by omega)] at hpg
        rw [← hpg,if_pos (show (5 : Int) ≠ 0 by decide)] at hgo
        conv=>whnf
        refine hK _ (congrArg (V.int .i64) ?_)
        exact hgo
    · have h4 : p.out < 0:=of_decide_eq_true (by assumption)
      rw [if_pos (by omega)] at hpg
      rw [← hpg,if_pos (show (5 : Int) ≠ 0 by decide)] at hgo
      conv=>whnf
      refine hK _ (congrArg (V.int .i64) ?_)
      exact hgo
    · have h4 : (i : Int) ≤ p.node:=of_decide_eq_true (by assumption)
      rw [if_pos (by omega)] at hpg
      rw [← hpg,if_pos (show (5 : Int) ≠ 0 by decide)] at hgo
      conv=>whnf
      refine hK _ (congrArg (V.int .i64) ?_)
      exact hgo
    · have h4 : p.node < 0:=of_decide_eq_true (by assumption)
      rw [if_pos (by omega)] at hpg
      rw [← hpg,if_pos (show (5 : Int) ≠ 0 by decide)] at hgo
      conv=>whnf
      refine hK _ (congrArg (V.int .i64) ?_)
      exact hgo
  · rw [if_neg hok] at hpg
    obtain ⟨q,hq⟩ : ∃ q,mget false v [p.node,p.out] = q:=⟨_,rfl⟩
    rw [hq] at hpg
    conv=>whnf
    refine ⟨false,rfl,?_⟩
    conv =>
      arg 1
      rw [hq]
    cases q
    · rw [if_neg (by decide)] at hpg
      repeat' first | refine And.intro (a:=I64 _) ?_ ?_ | refine ⟨_,rfl,?_,rfl,?_⟩ | fail
      · rfl
      · have hm:=(by assumption : N[i].ins.length ≤ MAXL)
        unfold MAXL at hm
        unfold I64; (try dsimp only); omega
      conv=>whnf
      exact ⟨(j + 1,mput v [p.node,p.out] true),(by (refine wk_auto ?_; refine Sel4.mk rfl rfl ?_ ?_ <;> (repeat' (first | exact True.intro | exact rfl | exact Or.inl rfl | exact Or.inr rfl | refine And.intro ?_ ?_ | fail)))),⟨hjl,hpg⟩,by show N[i].ins.length - (j + 1) < N[i].ins.length - j; omega⟩
    · rw [if_pos rfl] at hpg
      rw [← hpg,if_pos (show (6 : Int) ≠ 0 by decide)] at hgo
      conv=>whnf
      refine hK _ (congrArg (V.int .i64) ?_)
      exact hgo
end Gv
namespace Gv
variable [Glob] [Laid]
theorem cfiles_ca : callable Tryz.prog 32 = true:=by kernel_rfl
def cfiles_S : Spec:=fun args K=>∃ l : List FileS,args = [.sl fileV l] ∧ K (.int .i64 (checkFiles l))
noncomputable def cfiles_lib : List (Nat × Spec):=[(78,word_S)]
noncomputable def cfiles_fns : List (Nat × FnI):=[]
noncomputable def cfiles_prims : List (Nat × PSpec):=[]
theorem cfiles_E : EnvOK ⟨Tryz.prog,tys,cfiles_lib,cfiles_fns,cfiles_prims,[]⟩:=env_ok mixed0 tys0 (.cons word_ca word_ok .nil) .nil .nil rfl
set_option maxHeartbeats 8000000 in
theorem cfiles_ok : Pure Tryz.prog 32 cfiles_S:=by
  refine pure_by cfiles_E 6 (fi:={fn:=Tryz.f32,hooks:=[],draws:=[(10,[0,1,3,7,7,23,63,127,255,7,519,2047,4095])]}) ⟨Tryz.func32,by kernel_rfl,by kernel_rfl⟩ ?_
  rintro _ K ⟨l,rfl,hK⟩
  replace hK : ∀ r,r = .int .i64 (checkFiles l) → K r:=fun r h=>h ▸ hK
  repeat' first | (refine fun (b : Bool) hb=>?_; cases b <;> (first | exact absurd hb (by decide) | exact Bool.noConfusion (show true = false from hb) | exact Bool.noConfusion (show false = true from hb) | skip)) | (refine fun (hl : _ ≤ MAXL)=>?_) | fail
  rotate_left
  · refine hK _ ?_
    have h:=of_decide_eq_true (by assumption : decide ((12 : Int) < (l.length : Int)) = true)
    unfold checkFiles
    rw [if_pos (by omega)]
  have h12 : ¬ 12 < l.length:=by
    have h:=of_decide_eq_false (by assumption : decide ((12 : Int) < (l.length : Int)) = false)
    omega
  have hcf : checkFiles l = filesGo none l:=by unfold checkFiles; rw [if_neg h12]
  rw [hcf] at hK
  conv=>whnf
  refine loop_live [0,8,9] (σ:=Nat) (fun i=>[(10,.int .i64 i)]) (fun i=>[]) (fun i=>i ≤ l.length ∧ filesGo (prevN l i) (l.drop i) = filesGo none l) (fun i=>l.length - i) 0 ?_
  conv=>whnf
  refine ⟨(by (refine wk_auto ?_; refine Sel4.mk rfl rfl ?_ ?_ <;> (repeat' (first | exact True.intro | exact rfl | exact Or.inl rfl | exact Or.inr rfl | refine And.intro ?_ ?_ | fail)))),⟨Nat.zero_le _,rfl⟩,fun i hi=>?_⟩
  obtain ⟨hi,hg⟩:=hi
  repeat' first | (refine fun (b : Bool) hb=>?_; cases b <;> (first | exact absurd hb (by decide) | exact Bool.noConfusion (show true = false from hb) | exact Bool.noConfusion (show false = true from hb) | skip)) | refine ⟨_,rfl,?_,rfl,?_⟩ | fail
  · have h:=of_decide_eq_false (by assumption : decide ((i : Int) < (l.length : Int)) = false)
    have e : l.drop i = []:=List.drop_eq_nil_of_le (by omega)
    rw [e] at hg
    conv=>whnf
    refine hK _ ?_
    rw [← hg]
    rfl
  · have h:=of_decide_eq_true (by assumption : decide ((i : Int) < (l.length : Int)) = true)
    show i < l.length
    omega
  have hlt : i < l.length:=by
    have h:=of_decide_eq_true (by assumption : decide ((i : Int) < (l.length : Int)) = true)
    omega
  rw [filesGo_at hlt] at hg
  refine ⟨l[i].name,rfl,?_⟩
  repeat' first | (refine fun (b : Bool) hb=>?_; cases b <;> (first | exact absurd hb (by decide) | exact Bool.noConfusion (show true = false from hb) | exact Bool.noConfusion (show false = true from hb) | skip)) | (refine fun (hl : _ ≤ MAXL)=>?_) | refine And.intro (a:=I64 _) ?_ ?_ | refine ⟨_,⟨rfl,rfl⟩,?_⟩ | refine ⟨_,And.intro (a:=I64 _) ?_ ⟨rfl,rfl⟩,?_⟩ | fail
  · unfold I64; omega
  · have h1 : isWord l[i].name = true := by
      have h : (!isWord l[i].name) = false:=by assumption
      simpa using h
    have h2 : ¬ (4000 : Int) < (l[i].b.length : Int):=of_decide_eq_false (by assumption)
    have h3 : ¬ (0 : Int) < (i : Int):=of_decide_eq_false (by assumption)
    have e0 : i = 0:=by omega
    have h4 : notRise (prevN l i) l[i].name = false:=by
      have : prevN l i = none:=by unfold prevN; rw [if_pos e0]
      rw [this]; rfl
    rw [if_neg (by rw [h1]; decide),if_neg (by omega),if_neg (by rw [h4]; decide)] at hg
    exact ⟨i + 1,(by (refine wk_auto ?_; refine Sel4.mk rfl rfl ?_ ?_ <;> (repeat' (first | exact True.intro | exact rfl | exact Or.inl rfl | exact Or.inr rfl | refine And.intro ?_ ?_ | fail)))),⟨hlt,hg⟩,by omega⟩
  · unfold I64; omega
  · have h1 : isWord l[i].name = true := by
      have h : (!isWord l[i].name) = false:=by assumption
      simpa using h
    have h2 : ¬ (4000 : Int) < (l[i].b.length : Int):=of_decide_eq_false (by assumption)
    have h3 : (0 : Int) < (i : Int):=of_decide_eq_true (by assumption)
    have hp : prevN l i = some (l[i - 1]'(by omega)).name:=by
      unfold prevN
      rw [if_neg (by omega),List.getD_eq_getElem?_getD,List.getElem?_eq_getElem (by omega)]
      rfl
    rw [if_neg (by rw [h1]; decide),if_neg (by omega),hp] at hg
    conv=>whnf
    refine ⟨_,⟨i - 1,by omega,by omega,rfl,rfl,rfl⟩,?_⟩
    repeat' first | exact True.intro | (refine fun (b : Bool) hb=>?_; cases b <;> (first | exact absurd hb (by decide) | exact Bool.noConfusion (show true = false from hb) | exact Bool.noConfusion (show false = true from hb) | skip)) | refine And.intro (a:=I64 _) ?_ ?_ | refine ⟨_,⟨rfl,rfl⟩,?_⟩ | refine And.intro (a:=chkPast _ _ _ _ _ _ _ _) ?_ ?_ | fail
    · unfold I64; omega
    · have h4 : notRise (some (l[i - 1]'(by omega)).name) l[i].name = false := by
        have h : (!Op.bytesLess (l[i - 1]'(by omega)).name l[i].name) = false:=by assumption
        exact h
      rw [if_neg (by rw [h4]; decide)] at hg
      exact ⟨i + 1,(by (refine wk_auto ?_; refine Sel4.mk rfl rfl ?_ ?_ <;> (repeat' (first | exact True.intro | exact rfl | exact Or.inl rfl | exact Or.inr rfl | refine And.intro ?_ ?_ | fail)))),⟨hlt,hg⟩,by omega⟩
    · have h4 : notRise (some (l[i - 1]'(by omega)).name) l[i].name = true := by
        have h : (!Op.bytesLess (l[i - 1]'(by omega)).name l[i].name) = true:=by assumption
        exact h
      rw [if_pos h4] at hg
      conv=>whnf
      exact hK _ (by rw [← hg])
  · have h1 : isWord l[i].name = true := by
      have h : (!isWord l[i].name) = false:=by assumption
      simpa using h
    have h2 : (4000 : Int) < (l[i].b.length : Int):=of_decide_eq_true (by assumption)
    rw [if_neg (by rw [h1]; decide),if_pos (by omega)] at hg
    conv=>whnf
    exact hK _ (by rw [← hg])
  · have h1 : isWord l[i].name = false := by
      have h : (!isWord l[i].name) = true:=by assumption
      simpa using h
    rw [if_pos h1] at hg
    conv=>whnf
    exact hK _ (by rw [← hg])
end Gv
namespace Gv
variable [Glob] [Laid]
def machV (m : MachS) : V:=.agg [.sl nodeV m.g,.sl fileV m.f,.sl pipeV m.pipes,.sl procV m.p,.sl byteV m.sunk]
theorem checkMX_ca : callable Tryz.prog 41 = true:=by kernel_rfl
def checkMX_S : Spec:=fun args K=>∃ (m : MachS),args = [machV m] ∧ K (.int .i64 (checkMach m))
noncomputable def checkMX_lib : List (Nat × Spec):=[(62,checkG_S),(32,cfiles_S),(21,check_S),(95,inputsX_S),(96,checkPX_S)]
noncomputable def checkMX_fns : List (Nat × FnI):=[]
noncomputable def checkMX_prims : List (Nat × PSpec):=[]
theorem checkMX_E : EnvOK ⟨Tryz.prog,tys,checkMX_lib,checkMX_fns,checkMX_prims,[]⟩:=env_ok mixed0 tys0 (.cons checkG_ca checkG_ok (.cons cfiles_ca cfiles_ok (.cons check_ca check_ok (.cons inputsX_ca inputsX_ok (.cons checkPX_ca checkPX_ok .nil))))) .nil .nil rfl
set_option maxHeartbeats 16000000 in
theorem checkMX_ok : Pure Tryz.prog 41 checkMX_S:=by
  refine pure_by checkMX_E 6 (fi:={fn:=Tryz.f41,hooks:=[4,7,9],draws:=[(7,[0,1,3,0,8,24,56,127,255,511,1023,2047,511,4607,511,16895,49663,115199,258559,524287,1048575]),(19,[0,1,3,0,15,31,0,127,255])]}) ⟨Tryz.func41,by kernel_rfl,by kernel_rfl⟩ ?_
  rintro _ K ⟨m,rfl,hK⟩
  replace hK : ∀ r,r = .int .i64 (checkMach m) → K r:=fun r h=>h ▸ hK
  conv=>whnf
  refine join_live [1] (σ:=Unit) (fun _=>[(1,.ptr 0 0 0)]) (fun _=>[.box (machV m).cells]) (fun _=>checkG m.g = 0) ?_
  conv=>whnf
  refine ⟨?_,fun _ hg=>?_⟩
  · conv=>whnf
    skip
    refine ⟨m.g,rfl,?_⟩
    repeat' first | (refine fun (b : Bool) hb=>?_; cases b <;> (first | exact absurd hb (by decide) | exact Bool.noConfusion (show true = false from hb) | exact Bool.noConfusion (show false = true from hb) | skip)) | fail
    · exact ⟨(),(by (refine wk_auto ?_; refine Sel4.mk rfl rfl ?_ ?_ <;> (repeat' (first | exact True.intro | exact rfl | exact Or.inl rfl | exact Or.inr rfl | refine And.intro ?_ ?_ | fail)))),by simpa using ‹(!decide (checkG m.g = 0)) = false›⟩
    · have h : checkG m.g ≠ 0:=by simpa using ‹(!decide (checkG m.g = 0)) = true›
      conv=>whnf
      skip
      refine hK _ ?_
      unfold checkMach
      rw [if_pos h]
  conv=>whnf
  refine join_live [1] (σ:=Unit) (fun _=>[]) (fun _=>[.box (machV m).cells]) (fun _=>checkFiles m.f = 0) ?_
  conv=>whnf
  refine ⟨?_,fun _ hf=>?_⟩
  · conv=>whnf
    skip
    refine ⟨m.f,rfl,?_⟩
    repeat' first | (refine fun (b : Bool) hb=>?_; cases b <;> (first | exact absurd hb (by decide) | exact Bool.noConfusion (show true = false from hb) | exact Bool.noConfusion (show false = true from hb) | skip)) | fail
    · exact ⟨(),(by (refine wk_auto ?_; refine Sel4.mk rfl rfl ?_ ?_ <;> (repeat' (first | exact True.intro | exact rfl | exact Or.inl rfl | exact Or.inr rfl | refine And.intro ?_ ?_ | fail)))),by simpa using ‹(!decide (checkFiles m.f = 0)) = false›⟩
    · have h : checkFiles m.f ≠ 0:=by simpa using ‹(!decide (checkFiles m.f = 0)) = true›
      conv=>whnf
      skip
      refine hK _ ?_
      unfold checkMach
      rw [if_neg (by rw [hg]; decide),if_pos h]
  have hgf:=gf_of hg
  have hin:=insB_end m.g
  have c4 : (m.p.length ≠ m.g.length ∨ m.pipes.length ≠ (allIns m.g).length) → V.int .i64 4 = V.int .i64 (checkMach m):=fun h=>by unfold checkMach; rw [if_neg (by rw [hg]; decide),if_neg (by rw [hf]; decide),if_pos h]
  conv=>whnf
  refine join_live [1] (σ:=Unit) (fun _=>[]) (fun _=>[.box (machV m).cells]) (fun _=>¬ (m.p.length ≠ m.g.length ∨ m.pipes.length ≠ (allIns m.g).length)) ?_
  conv=>whnf
  refine ⟨?_,fun _ hl=>?_⟩
  · conv=>whnf
    repeat' first | exact True.intro | (refine fun (b : Bool) hb=>?_; cases b <;> (first | exact absurd hb (by decide) | exact Bool.noConfusion (show true = false from hb) | exact Bool.noConfusion (show false = true from hb) | skip)) | refine ⟨_,⟨rfl,rfl⟩,?_⟩ | refine ⟨_,(fun _=>⟨rfl,rfl⟩),?_⟩ | refine And.intro (a:=chkPast _ _ _ _ _ _ _ _) ?_ ?_ | fail
    · conv=>whnf
      skip
      apply Exists.intro
      apply And.intro
      · refine ⟨m.g,m.g.length,rfl,⟨Nat.le_refl _,allIns_small hg⟩,?_⟩
        exact ⟨rfl,rfl⟩
      rw [hin]
      conv=>whnf
      repeat' first | (refine fun (b : Bool) hb=>?_; cases b <;> (first | exact absurd hb (by decide) | exact Bool.noConfusion (show true = false from hb) | exact Bool.noConfusion (show false = true from hb) | skip)) | refine ⟨_,⟨rfl,rfl⟩,?_⟩ | fail
      all_goals (try (conv=>whnf))
      all_goals (skip)
      all_goals first
        | exact hK _ (c4 (by grind))
        | exact ⟨(),(by (refine wk_auto ?_; refine Sel4.mk rfl rfl ?_ ?_ <;> (repeat' (first | exact True.intro | exact rfl | exact Or.inl rfl | exact Or.inr rfl | refine And.intro ?_ ?_ | fail)))),by grind⟩
    · conv=>whnf
      skip
      all_goals (try (conv=>whnf))
      all_goals (skip)
      all_goals exact hK _ (c4 (by grind))
  have hbase : checkMach m = if pipesBad m.pipes ≠ 0 then pipesBad m.pipes else if procsBad m.g m.p ≠ 0 then procsBad m.g m.p else if 40000 < m.sunk.length then 2 else 0:=by
    unfold checkMach
    rw [if_neg (by rw [hg]; decide),if_neg (by rw [hf]; decide),if_neg hl]
  conv=>whnf
  repeat' first | (refine fun (hl : _ ≤ MAXL)=>?_) | fail
  conv=>whnf
  refine loop_live [1,45,46] (σ:=Nat) (fun k=>[(47,.int .i64 k)]) (fun _=>[.box (machV m).cells]) (fun k=>k ≤ m.pipes.length ∧ pipesBad (m.pipes.drop k) = pipesBad m.pipes) (fun k=>m.pipes.length - k) 0 ?_
  conv=>whnf
  refine ⟨(by (refine wk_auto ?_; refine Sel4.mk rfl rfl ?_ ?_ <;> (repeat' (first | exact True.intro | exact rfl | exact Or.inl rfl | exact Or.inr rfl | refine And.intro ?_ ?_ | fail)))),⟨Nat.zero_le _,rfl⟩,fun k hk=>?_⟩
  obtain ⟨hk,hno⟩:=hk
  repeat' first | (refine fun (b : Bool) hb=>?_; cases b <;> (first | exact absurd hb (by decide) | exact Bool.noConfusion (show true = false from hb) | exact Bool.noConfusion (show false = true from hb) | skip)) | (refine fun (hl : _ ≤ MAXL)=>?_) | refine ⟨_,rfl,?_,rfl,?_⟩ | fail
  rotate_left
  · have h:=of_decide_eq_true (by assumption : decide ((k : Int) < (m.pipes.length : Int)) = true)
    omega
  · have hk2 : k < m.pipes.length := by
      have h:=of_decide_eq_true (by assumption : decide ((k : Int) < (m.pipes.length : Int)) = true)
      omega
    have hst : pipesBad (m.pipes.drop k) = if checkPipe m.pipes[k] ≠ 0 then checkPipe m.pipes[k] else pipesBad (m.pipes.drop (k + 1)):=by
      rw [List.drop_eq_getElem_cons hk2]; rfl
    rw [hno] at hst
    conv=>whnf
    skip
    refine ⟨m.pipes[k],rfl,?_⟩
    rw [check_link]
    repeat' first | (refine fun (b : Bool) hb=>?_; cases b <;> (first | exact absurd hb (by decide) | exact Bool.noConfusion (show true = false from hb) | exact Bool.noConfusion (show false = true from hb) | skip)) | refine And.intro (a:=I64 _) ?_ ?_ | fail
    · have hM : m.pipes.length ≤ MAXL:=by assumption
      unfold I64; unfold MAXL at hM; omega
    · have h0 : checkPipe m.pipes[k] = 0:=by simpa using ‹(!decide (checkPipe m.pipes[k] = 0)) = false›
      rw [if_neg (by rw [h0]; decide)] at hst
      exact ⟨k + 1,(by (refine wk_auto ?_; refine Sel4.mk rfl rfl ?_ ?_ <;> (repeat' (first | exact True.intro | exact rfl | exact Or.inl rfl | exact Or.inr rfl | refine And.intro ?_ ?_ | fail)))),⟨hk2,hst.symm⟩,by omega⟩
    · have h0 : checkPipe m.pipes[k] ≠ 0:=by simpa using ‹(!decide (checkPipe m.pipes[k] = 0)) = true›
      rw [if_pos h0] at hst
      conv=>whnf
      skip
      refine hK _ ?_
      rw [hbase,hst,if_pos h0]
  have hkl : k = m.pipes.length:=by
    have h:=of_decide_eq_false (by assumption : decide ((k : Int) < (m.pipes.length : Int)) = false)
    omega
  subst hkl
  rw [List.drop_length] at hno
  have hp0 : pipesBad m.pipes = 0:=by rw [← hno]; rfl
  rw [if_neg (by rw [hp0]; decide)] at hbase
  conv=>whnf
  skip
  conv=>whnf
  refine loop_live [1,58,59] (σ:=Nat) (fun k=>[(60,.int .i64 k)]) (fun _=>[.box (machV m).cells]) (fun k=>k ≤ m.p.length ∧ procsBad (m.g.drop k) (m.p.drop k) = procsBad m.g m.p) (fun k=>m.p.length - k) 0 ?_
  conv=>whnf
  refine ⟨(by (refine wk_auto ?_; refine Sel4.mk rfl rfl ?_ ?_ <;> (repeat' (first | exact True.intro | exact rfl | exact Or.inl rfl | exact Or.inr rfl | refine And.intro ?_ ?_ | fail)))),⟨Nat.zero_le _,rfl⟩,fun k hk=>?_⟩
  obtain ⟨hk,hno⟩:=hk
  have hpl : m.p.length = m.g.length:=by omega
  have hend : k = m.p.length → procsBad m.g m.p = 0:=fun e=>by
    rw [← hno,e,List.drop_length]
    cases m.g.drop m.p.length <;> rfl
  have hst : ∀ (hk2 : k < m.p.length) (hk3 : k < m.g.length),procsBad m.g m.p = if checkProc m.g[k] m.p[k] ≠ 0 then checkProc m.g[k] m.p[k] else procsBad (m.g.drop (k + 1)) (m.p.drop (k + 1)):=fun hk2 hk3=>by
    rw [← hno,List.drop_eq_getElem_cons hk2,List.drop_eq_getElem_cons hk3]; rfl
  repeat' first | exact True.intro | (refine fun (b : Bool) hb=>?_; cases b <;> (first | exact absurd hb (by decide) | exact Bool.noConfusion (show true = false from hb) | exact Bool.noConfusion (show false = true from hb) | skip)) | (refine fun (hl : _ ≤ MAXL)=>?_) | refine ⟨_,⟨rfl,rfl⟩,?_⟩ | refine And.intro (a:=chkPast _ _ _ _ _ _ _ _) ?_ ?_ | refine ⟨_,⟨_,rfl,?_,rfl,rfl,rfl⟩,?_⟩ | refine ⟨_,rfl,?_,rfl,?_⟩ | fail
  · have hkl := hend (by
      have h:=of_decide_eq_false (by assumption : decide ((k : Int) < (m.p.length : Int)) = false)
      omega)
    conv=>whnf
    skip
    refine hK _ ?_
    rw [hbase,if_neg (by rw [hkl]; decide),if_neg]
    have h:=of_decide_eq_false (by assumption : decide (40000 < (m.sunk.length : Int)) = false)
    omega
  · have hkl := hend (by
      have h:=of_decide_eq_false (by assumption : decide ((k : Int) < (m.p.length : Int)) = false)
      omega)
    conv=>whnf
    skip
    refine hK _ ?_
    rw [hbase,if_neg (by rw [hkl]; decide),if_pos]
    have h:=of_decide_eq_true (by assumption : decide (40000 < (m.sunk.length : Int)) = true)
    omega
  all_goals
    have hk2 : k < m.p.length:=by
      have h:=of_decide_eq_true (by assumption : decide ((k : Int) < (m.p.length : Int)) = true)
      omega
  · exact hk2
  · omega
  have hk3 : k < m.g.length:=by omega
  have hst:=hst hk2 hk3
  have hcn:=hgf.node k hk3
  rw [ndG_at hk3] at hcn
  conv=>whnf
  skip
  apply Exists.intro
  apply And.intro
  · refine ⟨m.g[k],m.p[k],rfl,hcn,?_⟩
    exact ⟨rfl,rfl⟩
  conv=>whnf
  repeat' first | (refine fun (b : Bool) hb=>?_; cases b <;> (first | exact absurd hb (by decide) | exact Bool.noConfusion (show true = false from hb) | exact Bool.noConfusion (show false = true from hb) | skip)) | refine And.intro (a:=I64 _) ?_ ?_ | refine ⟨_,⟨rfl,rfl⟩,?_⟩ | fail
  · have hM : m.p.length ≤ MAXL:=by assumption
    unfold I64; unfold MAXL at hM; omega
  · have h0 : checkProc m.g[k] m.p[k] = 0:=by simpa using ‹(!decide (checkProc m.g[k] m.p[k] = 0)) = false›
    rw [if_neg (by rw [h0]; decide)] at hst
    exact ⟨k + 1,(by (refine wk_auto ?_; refine Sel4.mk rfl rfl ?_ ?_ <;> (repeat' (first | exact True.intro | exact rfl | exact Or.inl rfl | exact Or.inr rfl | refine And.intro ?_ ?_ | fail)))),⟨hk2,hst.symm⟩,by omega⟩
  · have h0 : checkProc m.g[k] m.p[k] ≠ 0:=by simpa using ‹(!decide (checkProc m.g[k] m.p[k] = 0)) = true›
    rw [if_pos h0] at hst
    conv=>whnf
    skip
    refine hK _ ?_
    rw [hbase,hst,if_pos h0]
end Gv
namespace Gv
variable [Glob] [Laid]
theorem clonePo_ca : callable Tryz.prog 127 = true:=by kernel_rfl
def clonePo_S : Spec:=fun args K=>∃ a : List Port,args = [.sl portV a] ∧ a.length ≤ 1000000 ∧ K (.sl portV a)
noncomputable def clonePo_lib : List (Nat × Spec):=[]
noncomputable def clonePo_fns : List (Nat × FnI):=[]
noncomputable def clonePo_prims : List (Nat × PSpec):=[]
theorem clonePo_E : EnvOK ⟨Tryz.prog,tys,clonePo_lib,clonePo_fns,clonePo_prims,[]⟩:=env_ok mixed0 tys0 .nil .nil .nil rfl
set_option maxHeartbeats 4000000 in
theorem clonePo_ok : Pure Tryz.prog 127 clonePo_S:=by
  refine pure_by clonePo_E 6 (fi:={fn:=Tryz.f127,hooks:=[],draws:=[]}) ⟨Tryz.func127,by kernel_rfl,by kernel_rfl⟩ ?_
  rintro _ K ⟨a,rfl,hx,hK⟩
  replace hK : ∀ r,r = .sl portV a → K r:=fun r h=>h ▸ hK
  repeat' first | refine ⟨_,_,_,LeL.refl _,?_⟩ | (refine fun (b : Bool) hb=>?_; cases b <;> (first | exact absurd hb (by decide) | exact Bool.noConfusion (show true = false from hb) | exact Bool.noConfusion (show false = true from hb) | skip)) | refine And.intro (a:=_ ≤ 140737488355328) ?_ ?_ | refine ⟨(fun _=>rfl),?_⟩ | refine ⟨Port,portV,?_⟩ | fail
  · show (0 + (a.map portV).length) * 16 ≤ 140737488355328
    rw [List.length_map]
    omega
  · exact hK _ rfl
  · have e : true = true → a = []:=by assumption
    have e:=e rfl
    subst e
    exact hK _ rfl
end Gv
namespace Gv
variable [Glob] [Laid]
theorem copiedX_ca : callable Tryz.prog 63 = true:=by kernel_rfl
def copiedX_S : Spec:=fun args K=>∃ (l : List Gp.Node),args = [.agg [.sl nodeV l]] ∧ (l.length ≤ 1000 ∧ ∀ n ∈ l,n.ins.length ≤ 1000000) ∧ K (.agg [.sl nodeV l])
noncomputable def copiedX_lib : List (Nat × Spec):=[(127,clonePo_S)]
noncomputable def copiedX_fns : List (Nat × FnI):=[(126,{fn:=Tryz.f126,hooks:=[],draws:=[]})]
noncomputable def copiedX_prims : List (Nat × PSpec):=[]
theorem copiedX_E : EnvOK ⟨Tryz.prog,tys,copiedX_lib,copiedX_fns,copiedX_prims,[]⟩:=env_ok mixed0 tys0 (.cons clonePo_ca clonePo_ok .nil) (.cons (by kernel_rfl) ⟨Tryz.func126,by kernel_rfl,by kernel_rfl⟩ .nil) .nil rfl
set_option maxHeartbeats 8000000 in
theorem copiedX_ok : Pure Tryz.prog 63 copiedX_S:=by
  refine pure_by copiedX_E 6 (fi:={fn:=Tryz.f63,hooks:=[2],draws:=[(5,[0,1,0,0,8,24,63,127,255])]}) ⟨Tryz.func63,by kernel_rfl,by kernel_rfl⟩ ?_
  rintro _ K ⟨l,rfl,⟨hl0,hfb⟩,hK⟩
  replace hK : ∀ r,r = .agg [.sl nodeV l] → K r:=fun r h=>h ▸ hK
  conv=>whnf
  refine join_live [1,2] (σ:=Unit) (fun _=>[(1,.ptr 0 0 0),(2,.ptr 1 0 0)]) (fun _=>[.box [.own 2],.box [.nil],.row 8 (l.map nodeV)]) (fun _=>True) ?_
  conv=>whnf
  refine ⟨?_,fun _ _=>?_⟩
  · repeat' first | (refine fun (b : Bool) hb=>?_; cases b <;> (first | exact absurd hb (by decide) | exact Bool.noConfusion (show true = false from hb) | exact Bool.noConfusion (show false = true from hb) | skip)) | refine And.intro (a:=_ ≤ 140737488355328) ?_ ?_ | refine ⟨(fun _=>rfl),?_⟩ | fail
    · show (0 + (l.map nodeV).length) * 96 ≤ 140737488355328
      rw [List.length_map]
      omega
    · exact ⟨(),(by (refine wk_auto ?_; refine Sel4.mk rfl rfl ?_ ?_ <;> (repeat' (first | exact True.intro | exact rfl | exact Or.inl rfl | exact Or.inr rfl | refine And.intro ?_ ?_ | fail)))),trivial⟩
    · have h : true = true → l = []:=by assumption
      rw [h rfl]
      exact ⟨(),(by (refine wk_auto ?_; refine Sel4.mk rfl rfl ?_ ?_ <;> (repeat' (first | exact True.intro | exact rfl | exact Or.inl rfl | exact Or.inr rfl | refine And.intro ?_ ?_ | fail)))),trivial⟩
  conv=>whnf
  repeat' first | (refine fun (hl : _ ≤ MAXL)=>?_) | fail
  conv=>whnf
  refine loop_live [1,2,10,11] (σ:=Nat) (fun i=>[(12,.int .i64 i)]) (fun _=>[.box [.own 2],.box [.nil],.row 8 (l.map nodeV)]) (fun i=>i ≤ l.length) (fun i=>l.length - i) 0 ?_
  conv=>whnf
  refine ⟨(by (refine wk_sel [some 0,some 1,some 2] rfl rfl ?_ ?_ <;> (repeat' (first | exact True.intro | exact rfl | exact Or.inl rfl | exact Or.inr rfl | refine And.intro ?_ ?_ | fail)))),Nat.zero_le _,fun i hi=>?_⟩
  repeat' first | refine ⟨_,_,_,LeL.refl _,?_⟩ | (refine fun (b : Bool) hb=>?_; cases b <;> (first | exact absurd hb (by decide) | exact Bool.noConfusion (show true = false from hb) | exact Bool.noConfusion (show false = true from hb) | skip)) | refine ⟨rfl,?_⟩ | fail
  · conv=>whnf
    skip
    exact hK _ rfl
  have hlt : i < l.length:=by
    have h:=of_decide_eq_true (by assumption : decide ((i : Int) < ((l.map nodeV).length : Int)) = true)
    rw [List.length_map] at h
    omega
  have hg : (l.map nodeV)[i]? = some (nodeV l[i]):=by rw [List.getElem?_map,List.getElem?_eq_getElem hlt]; rfl
  have hlm : i < (l.map nodeV).length:=by rw [List.length_map]; exact hlt
  refine ⟨i,rfl,hlm,?_⟩
  conv=>whnf
  refine ⟨_,hg,?_⟩
  repeat' first | exact True.intro | refine ⟨_,⟨rfl,rfl⟩,?_⟩ | refine And.intro (a:=chkPast _ _ _ _ _ _ _ _) ?_ ?_ | fail
  conv=>whnf
  skip
  apply Exists.intro
  apply And.intro
  · refine ⟨l[i].ins,rfl,hfb _ (List.getElem_mem hlt),?_⟩
    exact ⟨rfl,rfl⟩
  conv=>whnf
  skip
  apply Exists.intro
  apply And.intro
  · refine ⟨rfl,i,rfl,hlm,?_⟩
    exact ⟨rfl,rfl⟩
  conv=>whnf
  refine ⟨trivial,?_⟩
  conv=>whnf
  repeat' first | refine ⟨_,⟨rfl,rfl⟩,?_⟩ | fail
  apply Exists.intro
  apply Exists.intro
  apply And.intro
  · conv=>whnf
    refine ⟨_,hg,?_⟩
    exact ⟨rfl,rfl⟩
  conv=>whnf
  repeat' first | exact True.intro | refine And.intro (a:=I64 _) ?_ ?_ | refine And.intro (a:=chkPend _ _ _ _ _ _) ?_ ?_ | fail
  · have hM : (l.map nodeV).length ≤ MAXL:=by assumption
    rw [List.length_map] at hM
    unfold I64; unfold MAXL at hM; omega
  refine ⟨i + 1,?_,hlt,by omega⟩
  refine wk_sel [some 0,some 1,some 2] rfl rfl ?_ ?_ <;> (repeat' (first | exact True.intro | exact rfl | exact Or.inl rfl | exact Or.inr rfl | refine And.intro ?_ ?_ | fail))
  have e : (l.map nodeV).set i (nodeV l[i]) = l.map nodeV:=by
    have : (l.map nodeV)[i]'hlm = nodeV l[i]:=by simp
    rw [← this,List.set_getElem_self]
  show Row.row 8 (l.map nodeV) = Row.row 8 ((l.map nodeV).set i (nodeV l[i]))
  rw [e]
end Gv
namespace Gv
variable [Glob] [Laid]
theorem copyF_ca : callable Tryz.prog 64 = true:=by kernel_rfl
def copyF_S : Spec:=fun args K=>∃ (l : List FileS),args = [.sl fileV l] ∧ (l.length ≤ 1000 ∧ ∀ f ∈ l,f.b.length ≤ 1000000) ∧ K (.sl fileV l)
noncomputable def copyF_lib : List (Nat × Spec):=[(66,cloneB_S)]
noncomputable def copyF_fns : List (Nat × FnI):=[(128,{fn:=Tryz.f128,hooks:=[],draws:=[]})]
noncomputable def copyF_prims : List (Nat × PSpec):=[]
theorem copyF_E : EnvOK ⟨Tryz.prog,tys,copyF_lib,copyF_fns,copyF_prims,[]⟩:=env_ok mixed0 tys0 (.cons cloneB_ca cloneB_ok .nil) (.cons (by kernel_rfl) ⟨Tryz.func128,by kernel_rfl,by kernel_rfl⟩ .nil) .nil rfl
set_option maxHeartbeats 8000000 in
theorem copyF_ok : Pure Tryz.prog 64 copyF_S:=by
  refine pure_by copyF_E 6 (fi:={fn:=Tryz.f64,hooks:=[2],draws:=[]}) ⟨Tryz.func64,by kernel_rfl,by kernel_rfl⟩ ?_
  rintro _ K ⟨l,rfl,⟨hl0,hfb⟩,hK⟩
  replace hK : ∀ r,r = .sl fileV l → K r:=fun r h=>h ▸ hK
  conv=>whnf
  refine join_live [] (σ:=Unit) (fun _=>[(0,.own 0)]) (fun _=>[.row 2 (l.map fileV)]) (fun _=>True) ?_
  conv=>whnf
  refine ⟨?_,fun _ _=>?_⟩
  · repeat' first | (refine fun (b : Bool) hb=>?_; cases b <;> (first | exact absurd hb (by decide) | exact Bool.noConfusion (show true = false from hb) | exact Bool.noConfusion (show false = true from hb) | skip)) | refine And.intro (a:=_ ≤ 140737488355328) ?_ ?_ | refine ⟨(fun _=>rfl),?_⟩ | fail
    · show (0 + (l.map fileV).length) * 40 ≤ 140737488355328
      rw [List.length_map]
      omega
    · exact ⟨(),(by (refine wk_auto ?_; refine Sel4.mk rfl rfl ?_ ?_ <;> (repeat' (first | exact True.intro | exact rfl | exact Or.inl rfl | exact Or.inr rfl | refine And.intro ?_ ?_ | fail)))),trivial⟩
    · have h : true = true → l = []:=by assumption
      rw [h rfl]
      exact ⟨(),(by (refine wk_auto ?_; refine Sel4.mk rfl rfl ?_ ?_ <;> (repeat' (first | exact True.intro | exact rfl | exact Or.inl rfl | exact Or.inr rfl | refine And.intro ?_ ?_ | fail)))),trivial⟩
  repeat' first | (refine fun (hl : _ ≤ MAXL)=>?_) | fail
  conv=>whnf
  refine loop_live [0,7,8] (σ:=Nat) (fun i=>[(9,.int .i64 i)]) (fun i=>[.row 2 (l.map fileV)]) (fun i=>i ≤ l.length) (fun i=>l.length - i) 0 ?_
  conv=>whnf
  refine ⟨(by (refine wk_auto ?_; refine Sel4.mk rfl rfl ?_ ?_ <;> (repeat' (first | exact True.intro | exact rfl | exact Or.inl rfl | exact Or.inr rfl | refine And.intro ?_ ?_ | fail)))),Nat.zero_le _,fun i hi=>?_⟩
  repeat' first | refine ⟨_,_,_,LeL.refl _,?_⟩ | (refine fun (b : Bool) hb=>?_; cases b <;> (first | exact absurd hb (by decide) | exact Bool.noConfusion (show true = false from hb) | exact Bool.noConfusion (show false = true from hb) | skip)) | refine ⟨rfl,?_⟩ | fail
  · conv=>whnf
    exact hK _ rfl
  have hlt : i < l.length:=by
    have h:=of_decide_eq_true (by assumption : decide ((i : Int) < ((l.map fileV).length : Int)) = true)
    rw [List.length_map] at h
    omega
  have hg : (l.map fileV)[i]? = some (fileV l[i]):=by rw [List.getElem?_map,List.getElem?_eq_getElem hlt]; rfl
  have hlm : i < (l.map fileV).length:=by rw [List.length_map]; exact hlt
  refine ⟨i,rfl,hlm,?_⟩
  conv=>whnf
  refine ⟨_,hg,?_⟩
  repeat' first | refine ⟨_,rfl,?_,rfl,?_⟩ | fail
  · exact hfb _ (List.getElem_mem hlt)
  refine ⟨i,rfl,hlm,?_⟩
  conv=>whnf
  refine ⟨_,hg,?_⟩
  repeat' first | refine And.intro (a:=I64 _) ?_ ?_ | fail
  · have hl1 : (l.map fileV).length ≤ MAXL:=by assumption
    unfold I64; omega
  refine ⟨i + 1,?_,hlt,by omega⟩
  (refine wk_auto ?_; refine Sel4.mk rfl rfl ?_ ?_ <;> (repeat' (first | exact True.intro | exact rfl | exact Or.inl rfl | exact Or.inr rfl | refine And.intro ?_ ?_ | fail)))
  have e : (l.map fileV).set i (fileV l[i]) = l.map fileV:=by
    have : (l.map fileV)[i]'hlm = fileV l[i]:=by simp
    rw [← this,List.set_getElem_self]
  show Row.row 2 (l.map fileV) = Row.row 2 ((l.map fileV).set i (fileV l[i]))
  rw [e]
end Gv
namespace Gv
variable [Glob] [Laid]
theorem clonePi0_ca : callable Tryz.prog 117 = true:=by kernel_rfl
def clonePi0_P : PSpec:=fun args rows K=>∃ (l : List PipeS),args = [.sl pipeV l] ∧ rows = [] ∧ l.length ≤ 1000000 ∧ K (.own 1) [.dead,.row 4 (l.map pipeV)] ∧ (l = [] → K .nil [])
noncomputable def clonePi0_lib : List (Nat × Spec):=[]
noncomputable def clonePi0_fns : List (Nat × FnI):=[]
noncomputable def clonePi0_prims : List (Nat × PSpec):=[]
theorem clonePi0_E : EnvOK ⟨Tryz.prog,tys,clonePi0_lib,clonePi0_fns,clonePi0_prims,[]⟩:=env_ok mixed0 tys0 .nil .nil .nil rfl
set_option maxHeartbeats 4000000 in
theorem clonePi0_prim : PrimOK Tryz.prog 117 clonePi0_P:=by
  refine prim_by clonePi0_E 6 clonePi0_ca (fi:={fn:=Tryz.f117,hooks:=[],draws:=[]}) ⟨Tryz.func117,by kernel_rfl,by kernel_rfl⟩ ?_
  rintro args rows K ⟨l,rfl,rfl,hl,hK,hN⟩
  repeat' first | (refine fun (b : Bool) hb=>?_; cases b <;> (first | exact absurd hb (by decide) | exact Bool.noConfusion (show true = false from hb) | exact Bool.noConfusion (show false = true from hb) | skip)) | refine And.intro (a:=_ ≤ 140737488355328) ?_ ?_ | refine ⟨(fun _=>rfl),?_⟩ | fail
  · show (0 + (l.map pipeV).length) * 40 ≤ 140737488355328
    rw [List.length_map]; omega
  · exact hK
  · have h : true = true → l = []:=by assumption
    exact hN (h rfl)
end Gv
namespace Gv
variable [Glob] [Laid]
def clonePi_P : PSpec:=fun args rows K=>∃ (l : List PipeS),args = [.sl pipeV l] ∧ rows = [] ∧ l.length ≤ 1000000 ∧ K (.own 1) [.dead,.row 4 (l.map pipeV)]
set_option maxHeartbeats 4000000 in
theorem clonePi_prim : PrimOK Tryz.prog 117 clonePi_P:=by
  intro w0 m0 args rows K R m q w us C hv hT
  obtain ⟨l,rfl,rfl,hl,hK⟩:=hT
  refine prim_nil clonePi0_prim w0 m0 _ _ K R m q w us C hv ⟨l,rfl,rfl,hl,.inl hK,fun h=>.inr ⟨rfl,4,?_⟩⟩
  subst h
  exact hK
end Gv
namespace Gv
variable [Glob] [Laid]
theorem clonePr0_ca : callable Tryz.prog 118 = true:=by kernel_rfl
def clonePr0_P : PSpec:=fun args rows K=>∃ (l : List ProcS),args = [.sl procV l] ∧ rows = [] ∧ l.length ≤ 1000000 ∧ K (.own 1) [.dead,.row 5 (l.map procV)] ∧ (l = [] → K .nil [])
noncomputable def clonePr0_lib : List (Nat × Spec):=[]
noncomputable def clonePr0_fns : List (Nat × FnI):=[]
noncomputable def clonePr0_prims : List (Nat × PSpec):=[]
theorem clonePr0_E : EnvOK ⟨Tryz.prog,tys,clonePr0_lib,clonePr0_fns,clonePr0_prims,[]⟩:=env_ok mixed0 tys0 .nil .nil .nil rfl
set_option maxHeartbeats 4000000 in
theorem clonePr0_prim : PrimOK Tryz.prog 118 clonePr0_P:=by
  refine prim_by clonePr0_E 6 clonePr0_ca (fi:={fn:=Tryz.f118,hooks:=[],draws:=[]}) ⟨Tryz.func118,by kernel_rfl,by kernel_rfl⟩ ?_
  rintro args rows K ⟨l,rfl,rfl,hl,hK,hN⟩
  repeat' first | (refine fun (b : Bool) hb=>?_; cases b <;> (first | exact absurd hb (by decide) | exact Bool.noConfusion (show true = false from hb) | exact Bool.noConfusion (show false = true from hb) | skip)) | refine And.intro (a:=_ ≤ 140737488355328) ?_ ?_ | refine ⟨(fun _=>rfl),?_⟩ | fail
  · show (0 + (l.map procV).length) * 64 ≤ 140737488355328
    rw [List.length_map]; omega
  · exact hK
  · have h : true = true → l = []:=by assumption
    exact hN (h rfl)
end Gv
namespace Gv
variable [Glob] [Laid]
def clonePr_P : PSpec:=fun args rows K=>∃ (l : List ProcS),args = [.sl procV l] ∧ rows = [] ∧ l.length ≤ 1000000 ∧ K (.own 1) [.dead,.row 5 (l.map procV)]
set_option maxHeartbeats 4000000 in
theorem clonePr_prim : PrimOK Tryz.prog 118 clonePr_P:=by
  intro w0 m0 args rows K R m q w us C hv hT
  obtain ⟨l,rfl,rfl,hl,hK⟩:=hT
  refine prim_nil clonePr0_prim w0 m0 _ _ K R m q w us C hv ⟨l,rfl,rfl,hl,.inl hK,fun h=>.inr ⟨rfl,5,?_⟩⟩
  subst h
  exact hK
end Gv
namespace Gv
variable [Glob] [Laid]
theorem listsX_ca : callable Tryz.prog 115 = true:=by kernel_rfl
def listsX_P : PSpec:=fun args rows K=>∃ (l : List Bs),args = [.sl blV l] ∧ rows = [] ∧ (l.length ≤ 1000000 ∧ ∀ b ∈ l,b.length ≤ 1000000) ∧ K (.own 0) [.row 1 (l.map blV)]
noncomputable def listsX_lib : List (Nat × Spec):=[(66,cloneB_S)]
noncomputable def listsX_fns : List (Nat × FnI):=[(116,{fn:=Tryz.f116,hooks:=[],draws:=[]})]
noncomputable def listsX_prims : List (Nat × PSpec):=[]
theorem listsX_E : EnvOK ⟨Tryz.prog,tys,listsX_lib,listsX_fns,listsX_prims,[]⟩:=env_ok mixed0 tys0 (.cons cloneB_ca cloneB_ok .nil) (.cons (by kernel_rfl) ⟨Tryz.func116,by kernel_rfl,by kernel_rfl⟩ .nil) .nil rfl
set_option maxHeartbeats 4000000 in
theorem listsX_prim : PrimOK Tryz.prog 115 listsX_P:=by
  refine prim_by listsX_E 6 listsX_ca (fi:={fn:=Tryz.f115,hooks:=[2],draws:=[]}) ⟨Tryz.func115,by kernel_rfl,by kernel_rfl⟩ ?_
  rintro args rows K ⟨l,rfl,rfl,⟨hl0,hfb⟩,hK⟩
  conv=>whnf
  refine join_live [] (σ:=Unit) (fun _=>[(0,.own 0)]) (fun _=>[.row 1 (l.map blV)]) (fun _=>True) ?_
  conv=>whnf
  refine ⟨?_,fun _ _=>?_⟩
  · repeat' first | (refine fun (b : Bool) hb=>?_; cases b <;> (first | exact absurd hb (by decide) | exact Bool.noConfusion (show true = false from hb) | exact Bool.noConfusion (show false = true from hb) | skip)) | refine And.intro (a:=_ ≤ 140737488355328) ?_ ?_ | refine ⟨(fun _=>rfl),?_⟩ | fail
    · show (0 + (l.map blV).length) * 24 ≤ 140737488355328
      rw [List.length_map]
      omega
    · exact ⟨(),(by (refine wk_auto ?_; refine Sel4.mk rfl rfl ?_ ?_ <;> (repeat' (first | exact True.intro | exact rfl | exact Or.inl rfl | exact Or.inr rfl | refine And.intro ?_ ?_ | fail)))),trivial⟩
    · have h : true = true → l = []:=by assumption
      rw [h rfl]
      exact ⟨(),(by (refine wk_auto ?_; refine Sel4.mk rfl rfl ?_ ?_ <;> (repeat' (first | exact True.intro | exact rfl | exact Or.inl rfl | exact Or.inr rfl | refine And.intro ?_ ?_ | fail)))),trivial⟩
  repeat' first | (refine fun (hl : _ ≤ MAXL)=>?_) | fail
  conv=>whnf
  refine loop_live [0,7,8] (σ:=Nat) (fun i=>[(9,.int .i64 i)]) (fun i=>[.row 1 (l.map blV)]) (fun i=>i ≤ l.length) (fun i=>l.length - i) 0 ?_
  conv=>whnf
  refine ⟨(by (refine wk_auto ?_; refine Sel4.mk rfl rfl ?_ ?_ <;> (repeat' (first | exact True.intro | exact rfl | exact Or.inl rfl | exact Or.inr rfl | refine And.intro ?_ ?_ | fail)))),Nat.zero_le _,fun i hi=>?_⟩
  repeat' first | (refine fun (b : Bool) hb=>?_; cases b <;> (first | exact absurd hb (by decide) | exact Bool.noConfusion (show true = false from hb) | exact Bool.noConfusion (show false = true from hb) | skip)) | refine ⟨rfl,?_⟩ | fail
  · conv=>whnf
    exact hK
  have hlt : i < l.length:=by
    have h:=of_decide_eq_true (by assumption : decide ((i : Int) < ((l.map blV).length : Int)) = true)
    rw [List.length_map] at h
    omega
  have hg : (l.map blV)[i]? = some (blV l[i]):=by rw [List.getElem?_map,List.getElem?_eq_getElem hlt]; rfl
  have hlm : i < (l.map blV).length:=by rw [List.length_map]; exact hlt
  refine ⟨i,rfl,hlm,?_⟩
  conv=>whnf
  refine ⟨_,hg,?_⟩
  repeat' first | refine ⟨_,rfl,?_,rfl,?_⟩ | fail
  · exact hfb _ (List.getElem_mem hlt)
  refine ⟨i,rfl,hlm,?_⟩
  conv=>whnf
  refine ⟨hlm,?_⟩
  repeat' first | refine And.intro (a:=I64 _) ?_ ?_ | fail
  · have hl1 : (l.map blV).length ≤ MAXL:=by assumption
    rw [List.length_map] at hl1
    unfold MAXL at hl1; unfold I64; omega
  refine ⟨i + 1,?_,hlt,by omega⟩
  (refine wk_auto ?_; refine Sel4.mk rfl rfl ?_ ?_ <;> (repeat' (first | exact True.intro | exact rfl | exact Or.inl rfl | exact Or.inr rfl | refine And.intro ?_ ?_ | fail)))
  have e : (l.map blV).set i (blV l[i]) = l.map blV:=by
    have : (l.map blV)[i]'hlm = blV l[i]:=by simp
    rw [← this,List.set_getElem_self]
  show Row.row 1 (l.map blV) = Row.row 1 ((l.map blV).set i (blV l[i]))
  rw [e]
end Gv
namespace Gv
variable [Glob] [Laid]
structure copyZ (m : MachS) : Prop where
  g : m.g.length ≤ 1000 ∧ ∀ n ∈ m.g,n.ins.length ≤ 1000000
  f : m.f.length ≤ 1000 ∧ ∀ f ∈ m.f,f.b.length ≤ 1000000
  s : m.sunk.length ≤ 1000000
  q : m.pipes.length ≤ 1000000 ∧ ∀ p ∈ m.pipes,p.b.length ≤ 1000000
  p : m.p.length ≤ 1000000
  go : ∀ p ∈ m.p,(p.got.length ≤ 1000000 ∧ ∀ b ∈ p.got,b.length ≤ 1000000) ∧ (p.out.length ≤ 1000000 ∧ ∀ b ∈ p.out,b.length ≤ 1000000)
theorem copyX_ca : callable Tryz.prog 54 = true:=by kernel_rfl
def copyX_P : PSpec:=fun args rows K=>∃ (m : MachS),args = [machV m] ∧ rows = [] ∧ copyZ m ∧ ∀ Q ex,K (.agg [.sl nodeV m.g,.sl fileV m.f,.own 0,.own 1,.sl byteV m.sunk]) ([.row 4 (m.pipes.map pipeV),.row 5 (procEls Q m.p),.pack Q (subsOf m.p)] ++ ex)
noncomputable def copyX_lib : List (Nat × Spec):=[(63,copiedX_S),(64,copyF_S),(66,cloneB_S)]
noncomputable def copyX_fns : List (Nat × FnI):=[]
noncomputable def copyX_prims : List (Nat × PSpec):=[(117,clonePi_P),(118,clonePr_P),(115,listsX_P)]
theorem copyX_E : EnvOK ⟨Tryz.prog,tys,copyX_lib,copyX_fns,copyX_prims,[]⟩:=env_ok mixed0 tys0 (.cons copiedX_ca copiedX_ok (.cons copyF_ca copyF_ok (.cons cloneB_ca cloneB_ok .nil))) .nil (.cons clonePi_prim (.cons clonePr_prim (.cons listsX_prim .nil))) rfl
set_option maxHeartbeats 16000000 in
theorem copyX_prim : PrimOK Tryz.prog 54 copyX_P:=by
  refine prim_by copyX_E 6 copyX_ca (fi:={fn:=Tryz.f54,hooks:=[4,12,13],draws:=[(2,[0,1,3,0,8,31,0,64,255,223,1023,2047,4095,8191,16383]),(3,[0,1,3,0,8,31,31,127,255,511]),(7,[0,1,0,0,8,24,63,127,255]),(12,[0,1,0,0,8,0,0,0,128,448,0,0,2048,8128,16327,32711,65479,131071,262143,524287])]}) ⟨Tryz.func54,by kernel_rfl,by kernel_rfl⟩ ?_
  rintro args rows K ⟨m,rfl,rfl,hz,hK⟩
  conv=>whnf
  repeat' first | exact True.intro | refine ⟨_,⟨rfl,rfl⟩,?_⟩ | refine And.intro (a:=chkPast _ _ _ _ _ _ _ _) ?_ ?_ | fail
  conv=>whnf
  apply Exists.intro
  apply And.intro
  · refine ⟨m.g,rfl,hz.g,?_⟩
    exact ⟨rfl,rfl⟩
  conv=>whnf
  repeat' first | exact True.intro | refine ⟨_,⟨rfl,rfl⟩,?_⟩ | refine And.intro (a:=chkPast _ _ _ _ _ _ _ _) ?_ ?_ | fail
  conv=>whnf
  skip
  apply Exists.intro
  apply And.intro
  · refine ⟨m.f,rfl,hz.f,?_⟩
    exact ⟨rfl,rfl⟩
  conv=>whnf
  repeat' first | exact True.intro | refine ⟨_,⟨rfl,rfl⟩,?_⟩ | refine And.intro (a:=chkPast _ _ _ _ _ _ _ _) ?_ ?_ | fail
  conv=>whnf
  skip
  apply Exists.intro
  apply And.intro
  · refine ⟨m.sunk,rfl,hz.s,?_⟩
    exact ⟨rfl,rfl⟩
  conv=>whnf
  repeat' first | exact True.intro | refine ⟨_,⟨rfl,rfl⟩,?_⟩ | refine ⟨_,_,⟨rfl,rfl⟩,?_⟩ | refine And.intro (a:=chkPend _ _ _ _ _ _) ?_ ?_ | fail
  conv=>whnf
  skip
  conv=>whnf
  skip
  conv=>whnf
  skip
  refine join_live [3] (σ:=Unit) (fun _=>[(1,.ptr 3 0 0),(2,.ptr 4 0 0)]) (fun _=>[.row 4 (m.pipes.map pipeV),.row 5 (m.p.map procV),.dead,.box [.sl nodeV m.g,.sl fileV m.f,.own 0,.own 1,.sl byteV m.sunk],.box [.nil,.nil,.nil,.nil,.nil]]) (fun _=>True) ?_
  conv=>whnf
  refine ⟨?_,fun _ _=>?_⟩
  · conv=>whnf
    repeat' first | exact True.intro | refine ⟨_,⟨rfl,rfl⟩,?_⟩ | refine And.intro (a:=chkPast _ _ _ _ _ _ _ _) ?_ ?_ | fail
    conv=>whnf
    apply Exists.intro
    apply Exists.intro
    apply And.intro
    · refine ⟨m.pipes,rfl,rfl,hz.q.1,?_⟩
      exact ⟨rfl,rfl⟩
    conv=>whnf
    repeat' first | exact True.intro | refine ⟨_,⟨rfl,rfl⟩,?_⟩ | refine And.intro (a:=chkPend _ _ _ _ _ _) ?_ ?_ | refine And.intro (a:=chkPast _ _ _ _ _ _ _ _) ?_ ?_ | refine ⟨⟨rfl,rfl⟩,?_⟩ | fail
    conv=>whnf
    skip
    apply Exists.intro
    apply Exists.intro
    apply And.intro
    · refine ⟨m.p,rfl,rfl,hz.p,?_⟩
      exact ⟨rfl,rfl⟩
    conv=>whnf
    repeat' first | exact True.intro | refine ⟨_,⟨rfl,rfl⟩,?_⟩ | refine ⟨_,_,⟨rfl,rfl⟩,?_⟩ | refine And.intro (a:=chkPend _ _ _ _ _ _) ?_ ?_ | fail
    conv=>whnf
    skip
    conv=>whnf
    skip
    exact ⟨(),(by (refine wk_sel [some 3,some 5,some 2,some 0,some 1] rfl rfl ?_ ?_ <;> (repeat' (first | exact True.intro | exact rfl | exact Or.inl rfl | exact Or.inr rfl | refine And.intro ?_ ?_ | fail)))),trivial⟩
  conv=>whnf
  repeat' first | (refine fun (hl : _ ≤ MAXL)=>?_) | fail
  conv=>whnf
  refine loop_live [1,2,3,29,30] (σ:=Nat) (fun i=>[(31,.int .i64 i)]) (fun i=>[.row 4 (m.pipes.map pipeV),.row 5 (m.p.map procV),.dead,.box [.sl nodeV m.g,.sl fileV m.f,.own 0,.own 1,.sl byteV m.sunk],.box [.nil,.nil,.nil,.nil,.nil]]) (fun i=>i ≤ m.pipes.length) (fun i=>m.pipes.length - i) 0 ?_
  conv=>whnf
  refine ⟨(by (refine wk_sel [some 0,some 1,some 2,some 3,some 4] rfl rfl ?_ ?_ <;> (repeat' (first | exact True.intro | exact rfl | exact Or.inl rfl | exact Or.inr rfl | refine And.intro ?_ ?_ | fail)))),Nat.zero_le _,fun i hi=>?_⟩
  repeat' first | (refine fun (b : Bool) hb=>?_; cases b <;> (first | exact absurd hb (by decide) | exact Bool.noConfusion (show true = false from hb) | exact Bool.noConfusion (show false = true from hb) | skip)) | (refine fun (hl : _ ≤ MAXL)=>?_) | refine ⟨rfl,?_⟩ | fail
  rotate_left
  · have hlt : i < m.pipes.length := by
      have h:=of_decide_eq_true (by assumption : decide ((i : Int) < ((m.pipes.map pipeV).length : Int)) = true)
      rw [List.length_map] at h
      omega
    have hg : (m.pipes.map pipeV)[i]? = some (pipeV m.pipes[i]):=by rw [List.getElem?_map,List.getElem?_eq_getElem hlt]; rfl
    have hlm : i < (m.pipes.map pipeV).length:=by rw [List.length_map]; exact hlt
    refine ⟨i,rfl,hlm,?_⟩
    conv=>whnf
    refine ⟨_,hg,?_⟩
    repeat' first | exact True.intro | refine ⟨_,⟨rfl,rfl⟩,?_⟩ | refine And.intro (a:=chkPast _ _ _ _ _ _ _ _) ?_ ?_ | fail
    conv=>whnf
    skip
    apply Exists.intro
    apply And.intro
    · refine ⟨m.pipes[i].b,rfl,hz.q.2 _ (List.getElem_mem hlt),?_⟩
      exact ⟨rfl,rfl⟩
    conv=>whnf
    skip
    apply Exists.intro
    apply And.intro
    · refine ⟨rfl,i,rfl,hlm,?_⟩
      exact ⟨rfl,rfl⟩
    conv=>whnf
    refine ⟨trivial,?_⟩
    conv=>whnf
    repeat' first | refine ⟨_,⟨rfl,rfl⟩,?_⟩ | fail
    apply Exists.intro
    apply Exists.intro
    apply And.intro
    · conv=>whnf
      refine ⟨_,hg,?_⟩
      exact ⟨rfl,rfl⟩
    conv=>whnf
    repeat' first | exact True.intro | refine And.intro (a:=I64 _) ?_ ?_ | refine And.intro (a:=chkPend _ _ _ _ _ _) ?_ ?_ | fail
    · have hM : (m.pipes.map pipeV).length ≤ MAXL:=by assumption
      rw [List.length_map] at hM
      unfold I64; unfold MAXL at hM; omega
    refine ⟨i + 1,?_,hlt,by omega⟩
    refine wk_sel [some 0,some 1,some 2,some 3,some 4] rfl rfl ?_ ?_ <;> (repeat' (first | exact True.intro | exact rfl | exact Or.inl rfl | exact Or.inr rfl | refine And.intro ?_ ?_ | fail))
    have e : (m.pipes.map pipeV).set i (pipeV m.pipes[i]) = m.pipes.map pipeV:=by
      have : (m.pipes.map pipeV)[i]'hlm = pipeV m.pipes[i]:=by simp
      rw [← this,List.set_getElem_self]
    show Row.row 4 (m.pipes.map pipeV) = Row.row 4 ((m.pipes.map pipeV).set i (pipeV m.pipes[i]))
    rw [e]
  have e0 : m.p.map procV = copEls noLoc m.p 0:=by simp [copEls,procEls]
  rw [e0]
  conv=>whnf
  skip
  conv=>whnf
  refine loop_live [1,2,3,46,47] (σ:=Nat × Loc) (fun s=>[(48,.int .i64 s.1)]) (fun s=>[.row 4 (m.pipes.map pipeV),.row 5 (copEls s.2 m.p s.1),.pack s.2 (subsOf (m.p.take s.1)),.box [.sl nodeV m.g,.sl fileV m.f,.own 0,.own 1,.sl byteV m.sunk],.box [.nil,.nil,.nil,.nil,.nil]]) (fun s=>s.1 ≤ m.p.length) (fun s=>m.p.length - s.1) (0,noLoc) ?_
  conv=>whnf
  refine ⟨(wk_pack0 2 noLoc rfl).trans (by (refine wk_sel [some 0,some 1,some 2,some 3,some 4] rfl rfl ?_ ?_ <;> (repeat' (first | exact True.intro | exact rfl | exact Or.inl rfl | exact Or.inr rfl | refine And.intro ?_ ?_ | fail)))),Nat.zero_le _,fun s hs=>?_⟩
  obtain ⟨k,Q⟩:=s
  dsimp only at hs
  have hcl:=copEls_len (Q:=Q) hs
  have hcn : (copEls noLoc m.p 0).length = m.p.length:=copEls_len (Nat.zero_le _)
  conv=>whnf
  repeat' first | (refine fun (b : Bool) hb=>?_; cases b <;> (first | exact absurd hb (by decide) | exact Bool.noConfusion (show true = false from hb) | exact Bool.noConfusion (show false = true from hb) | skip)) | fail
  · have hkl : k = m.p.length := by
      have h:=of_decide_eq_false (by assumption : decide ((k : Int) < ((copEls noLoc m.p 0).length : Int)) = false)
      rw [hcn] at h
      omega
    subst hkl
    have hfin:=hK Q [.box [.sl nodeV m.g,.sl fileV m.f,.own 0,.own 1,.sl byteV m.sunk],.box [.sl nodeV m.g,.sl fileV m.f,.own 0,.own 1,.sl byteV m.sunk]]
    have e1 : copEls Q m.p m.p.length = procEls Q m.p:=by simp [copEls]
    have e2 : subsOf (m.p.take m.p.length) = subsOf m.p:=by rw [List.take_length]
    rw [← e1,← e2] at hfin
    conv=>whnf
    skip
    exact hfin
  have hk : k < m.p.length:=by
    have h:=of_decide_eq_true (by assumption : decide ((k : Int) < ((copEls noLoc m.p 0).length : Int)) = true)
    rw [hcn] at h
    omega
  have hat:=copEls_at (Q:=Q) hk
  conv=>whnf
  refine join_any ?_
  conv=>whnf
  refine join_live [1,2,3,46,47,48] (σ:=Unit) (fun _=>[(6,.int .i64 k),(7,.ptr 5 0 0)]) (fun _=>[.row 4 (m.pipes.map pipeV),.rowq 5 (copEls Q m.p k),.pack Q (subsOf (m.p.take k)),.box [.sl nodeV m.g,.sl fileV m.f,.own 0,.own 1,.sl byteV m.sunk],.box [.nil,.nil,.nil,.nil,.nil],.box (procV m.p[k]).cells]) (fun _=>True) ?_
  conv=>whnf
  refine ⟨?_,fun _ _=>?_⟩
  · conv=>whnf
    refine ⟨rfl,k,rfl,by rw [hcl]; exact hk,?_⟩
    conv=>whnf
    refine ⟨_,hat,?_⟩
    skip
    exact ⟨(),(by (refine wk_sel [some 0,some 1,some 2,some 3,some 4,some 5] rfl rfl ?_ ?_ <;> (repeat' (first | exact True.intro | exact rfl | exact Or.inl rfl | exact Or.inr rfl | refine And.intro ?_ ?_ | fail)))),trivial⟩
  conv=>whnf
  repeat' first | exact True.intro | refine ⟨_,⟨rfl,rfl⟩,?_⟩ | refine And.intro (a:=chkPast _ _ _ _ _ _ _ _) ?_ ?_ | fail
  conv=>whnf
  skip
  conv=>whnf
  skip
  apply Exists.intro
  apply Exists.intro
  apply And.intro
  · conv=>whnf
    refine ⟨m.p[k].got,rfl,rfl,(hz.go _ (List.getElem_mem hk)).1,?_⟩
    exact ⟨rfl,rfl⟩
  conv=>whnf
  repeat' first | exact True.intro | refine ⟨_,⟨rfl,rfl⟩,?_⟩ | refine And.intro (a:=chkPend _ _ _ _ _ _) ?_ ?_ | refine And.intro (a:=chkPast _ _ _ _ _ _ _ _) ?_ ?_ | refine ⟨⟨rfl,rfl⟩,?_⟩ | fail
  conv=>whnf
  skip
  apply Exists.intro
  apply Exists.intro
  apply And.intro
  · conv=>whnf
    refine ⟨m.p[k].out,rfl,rfl,(hz.go _ (List.getElem_mem hk)).2,?_⟩
    exact ⟨rfl,rfl⟩
  conv=>whnf
  repeat' first | exact True.intro | refine And.intro (a:=chkPend _ _ _ _ _ _) ?_ ?_ | refine ⟨⟨rfl,rfl⟩,?_⟩ | fail
  conv=>whnf
  skip
  apply Exists.intro
  apply And.intro
  · refine ⟨rfl,k,rfl,by rw [hcl]; exact hk,?_⟩
    exact ⟨rfl,rfl⟩
  conv=>whnf
  refine ⟨trivial,?_⟩
  conv=>whnf
  repeat' first | refine ⟨_,⟨rfl,rfl⟩,?_⟩ | fail
  apply Exists.intro
  apply Exists.intro
  apply And.intro
  · conv=>whnf
    refine ⟨_,hat,?_⟩
    exact ⟨rfl,rfl⟩
  conv=>whnf
  repeat' first | exact True.intro | refine And.intro (a:=chkPend _ _ _ _ _ _) ?_ ?_ | refine ⟨⟨rfl,rfl⟩,?_⟩ | fail
  conv=>whnf
  skip
  apply Exists.intro
  apply And.intro
  · refine ⟨rfl,k,rfl,by rw [List.length_set,hcl]; exact hk,?_⟩
    exact ⟨rfl,rfl⟩
  conv=>whnf
  refine ⟨trivial,?_⟩
  conv=>whnf
  repeat' first | refine ⟨_,⟨rfl,rfl⟩,?_⟩ | fail
  apply Exists.intro
  apply Exists.intro
  apply And.intro
  · conv=>whnf
    refine ⟨_,List.getElem?_set_self (by rw [hcl]; exact hk),?_⟩
    exact ⟨rfl,rfl⟩
  conv=>whnf
  repeat' first | exact True.intro | refine And.intro (a:=chkPend _ _ _ _ _ _) ?_ ?_ | fail
  conv=>whnf
  skip
  have hel : ∀ x y : V,((copEls Q m.p k).set k x).set k y = (copEls Q m.p k).set k y:=fun x y=>List.set_set ..
  rw [hel]
  refine wkE_absorb 1 2 6 7 k rfl rfl rfl rfl (by decide) (List.getElem?_set_self (by rw [hcl]; exact hk)) rfl (by rw [subsOf_len,List.length_take]; omega) (fun j x hj hx=>?_) fun Q' hQ'=>?_
  · rw [List.getElem?_set_ne (fun h=>hj h.symm)] at hx
    exact copEls_pure x (List.mem_of_getElem? hx)
  rw [List.set_set]
  conv=>whnf
  repeat' first | refine And.intro (a:=I64 _) ?_ ?_ | fail
  · have hM : (m.p.map procV).length ≤ MAXL:=by rw [e0]; assumption
    rw [List.length_map] at hM
    unfold I64; unfold MAXL at hM; omega
  refine ⟨(k + 1,Q'),?_,hk,by show m.p.length - (k + 1) < m.p.length - k; omega⟩
  have hst:=copEls_step hk hQ'
  have hsb:=subs_step hk
  show Wk _ _ _ _ [.row 4 (m.pipes.map pipeV),.row 5 (copEls Q' m.p (k + 1)),.pack Q' (subsOf (m.p.take (k + 1))),.box [.sl nodeV m.g,.sl fileV m.f,.own 0,.own 1,.sl byteV m.sunk],.box [.nil,.nil,.nil,.nil,.nil]]
  rw [← hst,← hsb]
  exact (by (refine wk_sel [some 0,some 1,some 2,some 3,some 4] rfl rfl ?_ ?_ <;> (repeat' (first | exact True.intro | exact rfl | exact Or.inl rfl | exact Or.inr rfl | refine And.intro ?_ ?_ | fail))))
end Gv
namespace Gv
variable [Glob] [Laid] [Nums] [Errs]
structure FocM (m : MachS) (i : Nat) : Prop where
  g : checkG m.g = 0
  f : checkFiles m.f = 0
  np : m.p.length = m.g.length
  nq : m.pipes.length = (allIns m.g).length
  lt : i < m.g.length
  got : (pr m i).got.length = nI m.g i
  out : (pr m i).out.length = nO m.g i
  room : ∀ p ∈ m.pipes,p.b.length ≤ 400000
  big : ∀ b ∈ (pr m i).got ++ (pr m i).out,b.length ≤ 400000
theorem FocM.foc {m : MachS} {i : Nat} (h : FocM m i) {Q : Loc} : FocOK m i (procEls Q m.p):=⟨h.g,h.f,h.np,h.nq,h.lt,by rw [procEls_len]; exact h.np,h.got,h.out,h.room,procEls_pure,h.big⟩
def Steps (I : MachS → Prop) : Prop:=∀ m,I m → ∀ i,i < m.p.length → FocM m i ∧ stepZ m i ∧ I (stepM m i).1
theorem pipesBad_at : ∀ {l : List PipeS},pipesBad l = 0 → ∀ p ∈ l,checkPipe p = 0
  | a :: r,h,p,hp=>by
    unfold pipesBad at h
    split at h
    · rename_i h1; exact absurd h h1
    · rename_i h1
      rcases List.mem_cons.1 hp with rfl | hp
      · exact Decidable.not_not.1 h1
      · exact pipesBad_at h p hp
theorem procsBad_at : ∀ {g : List Gp.Node} {l : List ProcS},procsBad g l = 0 → ∀ i (h1 : i < g.length) (h2 : i < l.length),checkProc g[i] l[i] = 0
  | n :: r,a :: s,h,i,h1,h2=>by
    unfold procsBad at h
    split at h
    · rename_i h3; exact absurd h h3
    · rename_i h3
      cases i with
      | zero=>exact Decidable.not_not.1 h3
      | succ i=>exact procsBad_at h i (by simpa using h1) (by simpa using h2)
structure Right (m : MachS) : Prop where
  g : checkG m.g = 0
  f : checkFiles m.f = 0
  np : m.p.length = m.g.length
  nq : m.pipes.length = (allIns m.g).length
  q : ∀ p ∈ m.pipes,checkPipe p = 0
  p : ∀ i (h1 : i < m.g.length) (h2 : i < m.p.length),checkProc m.g[i] m.p[i] = 0
  s : m.sunk.length ≤ 40000
theorem right_of {m : MachS} (h : checkMach m = 0) : Right m:=by
  unfold checkMach at h
  split at h
  · rename_i h1; exact absurd h h1
  rename_i h1
  split at h
  · rename_i h2; exact absurd h h2
  rename_i h2
  split at h
  · cases h
  rename_i h3
  split at h
  · rename_i h4; exact absurd h h4
  rename_i h4
  split at h
  · rename_i h5; exact absurd h h5
  rename_i h5
  split at h
  · cases h
  rename_i h6
  exact ⟨Decidable.not_not.1 h1,Decidable.not_not.1 h2,by omega,by omega,pipesBad_at (Decidable.not_not.1 h4),procsBad_at (Decidable.not_not.1 h5),by omega⟩
theorem proc_of {n : Gp.Node} {p : ProcS} (h : checkProc n p = 0) : p.got.length = n.ins.length ∧ (p.out.length : Int) = outsN n ∧ 0 ≤ p.pos ∧ p.pos ≤ (n.ins.length : Int) ∧ (p.read = true ∨ n.ins.length = 0 ∨ p.pos < (n.ins.length : Int)) ∧ ∀ b ∈ p.got ++ p.out,b.length ≤ 40000:=by
  unfold checkProc at h
  split at h
  · cases h
  rename_i h1
  split at h
  · cases h
  rename_i h2
  split at h
  · cases h
  rename_i h3
  split at h
  · cases h
  rename_i h4
  refine ⟨by omega,by omega,by omega,by omega,?_,fun b hb=>?_⟩
  · cases hr : p.read with
    | true=>exact .inl rfl
    | false =>
      right
      by_cases h0 : n.ins.length = 0
      · exact .inl h0
      · right
        have : ¬ p.pos = (n.ins.length : Int):=fun e=>h3 ⟨hr,e,by omega⟩
        omega
  · rcases Nat.lt_or_ge 40000 b.length with h5 | h5
    · exact absurd (List.any_eq_true.2 ⟨b,hb,decide_eq_true h5⟩) h4
    · exact h5
theorem flat_le : ∀ (l : List Bs) (n : Nat),(∀ b ∈ l,b.length ≤ n) → l.flatten.length ≤ l.length * n
  | [],n,_=>by simp
  | a :: r,n,h=>by
    have h1:=h a (by simp)
    have h2:=flat_le r n fun b hb=>h b (by simp [hb])
    rw [List.flatten_cons,List.length_append,List.length_cons,Nat.succ_mul]
    omega
theorem pr_at {m : MachS} {i : Nat} (h : i < m.p.length) : pr m i = m.p[i]:=by
  unfold pr
  rw [List.getD_eq_getElem?_getD,List.getElem?_eq_getElem h]; rfl
theorem right_foc {m : MachS} (R : Right m) {i : Nat} (hi : i < m.p.length) : FocM m i ∧ stepZ m i:=by
  have hg : i < m.g.length:=by rw [← R.np]; exact hi
  have hp:=proc_of (R.p i hg hi)
  obtain ⟨p1,p2,p3,p4,p5,p6⟩:=hp
  have hpr:=pr_at hi
  have hnd : ndG m.g i = m.g[i]:=ndG_at hg
  have hni : nI m.g i = m.g[i].ins.length:=by unfold nI; rw [hnd]
  have hi5:=ins_le ((gf_of R.g).node i hg)
  rw [hnd] at hi5
  have hgl : (pr m i).got.flatten.length ≤ 5 * 40000:=by
    have h1:=flat_le (pr m i).got 40000 fun b hb=>p6 b (by rw [← hpr]; exact List.mem_append_left _ hb)
    have h2 : (pr m i).got.length ≤ 5:=by rw [hpr,p1]; exact hi5
    exact Nat.le_trans h1 (Nat.mul_le_mul_right 40000 h2)
  have hgl : (pr m i).got.flatten.length ≤ 200000:=hgl
  refine ⟨⟨R.g,R.f,R.np,R.nq,hg,by rw [hpr,hni]; exact p1,?_,fun p hp=>?_,fun b hb=>?_⟩,fun p hp=>R.q p hp,by rw [hpr]; exact p3,by rw [hpr,hni]; exact p5,by omega,by have:=R.s; omega⟩
  · rw [hpr]
    unfold nO
    rw [hnd]
    omega
  · have:=pipe_small ((check_link p).trans (R.q p hp))
    omega
  · rw [hpr] at hb
    have:=p6 b hb
    omega
theorem right_copy {m : MachS} (R : Right m) : copyZ m:=by
  have hg:=(gf_of R.g).len.2
  have hf:=checkFiles_ok R.f
  refine ⟨⟨by omega,fun n hn=>?_⟩,⟨by omega,fun f h=>?_⟩,by have:=R.s; omega,⟨by rw [R.nq]; exact allIns_small R.g,fun p h=>?_⟩,by rw [R.np]; omega,fun p hp=>?_⟩
  · obtain ⟨i,hi,rfl⟩:=List.getElem_of_mem hn
    have:=ins_le ((gf_of R.g).node i hi)
    rw [ndG_at hi] at this
    omega
  · have:=(hf.2 f h).2
    omega
  · have:=pipe_small ((check_link p).trans (R.q p h))
    omega
  · obtain ⟨i,hi,rfl⟩:=List.getElem_of_mem hp
    have hgi : i < m.g.length:=by rw [← R.np]; exact hi
    obtain ⟨p1,p2,p3,p4,p5,p6⟩:=proc_of (R.p i hgi hi)
    have hcn:=(gf_of R.g).node i hgi
    have hi5:=ins_le hcn
    have ho5:=outsN_bnd hcn
    rw [ndG_at hgi] at hi5 ho5
    refine ⟨⟨by omega,fun b hb=>?_⟩,⟨by omega,fun b hb=>?_⟩⟩
    · have:=p6 b (List.mem_append_left _ hb); omega
    · have:=p6 b (List.mem_append_right _ hb); omega
def runP (m : MachS) (l : List Int) : MachS × List Int × Int:=if checkMach m ≠ 0 then (zM,[],checkMach m) else if 40000 < l.length then (zM,[],2) else ((runGo l m []).1,(runGo l m []).2,0)
theorem stepM_len (m : MachS) (i : Nat) (hi : i < m.p.length) : (stepM m i).1.p.length = m.p.length:=by rw [(only_step hi).p,List.length_set]
theorem runGo_app : ∀ (l : List Int) (m : MachS) (s : List Int),runGo l m s = ((runGo l m []).1,s ++ (runGo l m []).2)
  | [],m,s=>by simp [runGo]
  | i :: r,m,s=>by
    rw [runGo,runGo_app r _ (s ++ [(pickM m i).2])]
    conv=>rhs; rw [runGo,runGo_app r _ ([] ++ [(pickM m i).2])]
    simp
theorem runGo_snoc : ∀ (l : List Int) (m : MachS) (x : Int),runGo (l ++ [x]) m [] = ((pickM (runGo l m []).1 x).1,(runGo l m []).2 ++ [(pickM (runGo l m []).1 x).2])
  | [],m,x=>by simp [runGo]
  | i :: r,m,x=>by
    rw [List.cons_append,runGo,runGo_app (r ++ [x]),runGo_snoc r,runGo,runGo_app r (pickM m i).1 ([] ++ [(pickM m i).2])]
    simp
theorem runGo_len : ∀ (l : List Int) (m : MachS) (s : List Int),(runGo l m s).2.length = s.length + l.length
  | [],m,s=>rfl
  | i :: r,m,s=>by
    rw [runGo,runGo_len r]
    simp
    omega
end Gv
namespace Gv
variable [Glob] [Laid]
def sorterNodes : List Gp.Node:=[srcN [97],splitN 2 [⟨0,0⟩],workN ⟨6,[],0⟩ [⟨1,0⟩],workN ⟨6,[],0⟩ [⟨1,1⟩],joinN 2 zCmd [⟨2,0⟩,⟨3,0⟩],sinkN [98] [⟨4,0⟩]]
theorem sorter_ca : callable Tryz.prog 56 = true:=by kernel_rfl
def sorter_S : Spec:=fun args K=>args = [] ∧ K (.agg [.sl nodeV sorterNodes])
noncomputable def sorter_lib : List (Nat × Spec):=[]
noncomputable def sorter_fns : List (Nat × FnI):=[]
noncomputable def sorter_prims : List (Nat × PSpec):=[]
theorem sorter_E : EnvOK ⟨Tryz.prog,tys,sorter_lib,sorter_fns,sorter_prims,[]⟩:=env_ok mixed0 tys0 .nil .nil .nil rfl
set_option maxHeartbeats 4000000 in
set_option maxRecDepth 10000 in
theorem sorter_ok : Pure Tryz.prog 56 sorter_S:=by
  refine pure_by sorter_E 6 (fi:={fn:=Tryz.f56,hooks:=[],draws:=[]}) ⟨Tryz.func56,by kernel_rfl,by kernel_rfl⟩ ?_
  rintro _ K ⟨rfl,hK⟩
  repeat' (first | exact True.intro | refine ⟨_,LeL.refl _,?_⟩ | refine ⟨_,_,_,LeL.refl _,?_⟩ | (refine fun (b : Bool) hb=>?_; cases b <;> (first | exact absurd hb (by decide) | exact Bool.noConfusion (show true = false from hb) | exact Bool.noConfusion (show false = true from hb) | skip)) | (refine fun (hl : _ ≤ MAXL)=>?_) | refine And.intro (a:=I64 _) ?_ ?_ | refine And.intro (a:=_ ≤ 140737488355328) ?_ ?_ | refine ⟨_,⟨rfl,rfl⟩,?_⟩ | refine ⟨_,And.intro (a:=I64 _) ?_ ⟨rfl,rfl⟩,?_⟩ | refine ⟨_,_,⟨rfl,rfl⟩,?_⟩ | refine ⟨_,(fun _=>⟨rfl,rfl⟩),?_⟩ | refine And.intro (a:=chkPend _ _ _ _ _ _) ?_ ?_ | refine And.intro (a:=chkPast _ _ _ _ _ _ _ _) ?_ ?_ | refine ⟨⟨rfl,rfl⟩,?_⟩ | refine And.intro (And.intro rfl rfl) ?_ | refine ⟨True.intro,?_⟩ | refine ⟨_,⟨_,rfl,?_,rfl,rfl,rfl⟩,?_⟩ | refine ⟨_,rfl,?_,rfl,?_⟩ | refine ⟨_,(fun _=>rfl),rfl,?_⟩ | refine ⟨(fun _=>rfl),?_⟩ | refine ⟨rfl,?_⟩ | refine Opt.a ?_ | fail)
  refine ⟨Gp.Port,portV,?_⟩
  repeat' (first | exact True.intro | refine ⟨_,LeL.refl _,?_⟩ | refine ⟨_,_,_,LeL.refl _,?_⟩ | (refine fun (b : Bool) hb=>?_; cases b <;> (first | exact absurd hb (by decide) | exact Bool.noConfusion (show true = false from hb) | exact Bool.noConfusion (show false = true from hb) | skip)) | (refine fun (hl : _ ≤ MAXL)=>?_) | refine And.intro (a:=I64 _) ?_ ?_ | refine And.intro (a:=_ ≤ 140737488355328) ?_ ?_ | refine ⟨_,⟨rfl,rfl⟩,?_⟩ | refine ⟨_,And.intro (a:=I64 _) ?_ ⟨rfl,rfl⟩,?_⟩ | refine ⟨_,_,⟨rfl,rfl⟩,?_⟩ | refine ⟨_,(fun _=>⟨rfl,rfl⟩),?_⟩ | refine And.intro (a:=chkPend _ _ _ _ _ _) ?_ ?_ | refine And.intro (a:=chkPast _ _ _ _ _ _ _ _) ?_ ?_ | refine ⟨⟨rfl,rfl⟩,?_⟩ | refine And.intro (And.intro rfl rfl) ?_ | refine ⟨True.intro,?_⟩ | refine ⟨_,⟨_,rfl,?_,rfl,rfl,rfl⟩,?_⟩ | refine ⟨_,rfl,?_,rfl,?_⟩ | refine ⟨_,(fun _=>rfl),rfl,?_⟩ | refine ⟨(fun _=>rfl),?_⟩ | refine ⟨rfl,?_⟩ | refine Opt.a ?_ | fail)
  refine ⟨Gp.Port,portV,[⟨0,0⟩],LeL.refl _,?_⟩
  repeat' (first | exact True.intro | refine ⟨_,LeL.refl _,?_⟩ | refine ⟨_,_,_,LeL.refl _,?_⟩ | (refine fun (b : Bool) hb=>?_; cases b <;> (first | exact absurd hb (by decide) | exact Bool.noConfusion (show true = false from hb) | exact Bool.noConfusion (show false = true from hb) | skip)) | (refine fun (hl : _ ≤ MAXL)=>?_) | refine And.intro (a:=I64 _) ?_ ?_ | refine And.intro (a:=_ ≤ 140737488355328) ?_ ?_ | refine ⟨_,⟨rfl,rfl⟩,?_⟩ | refine ⟨_,And.intro (a:=I64 _) ?_ ⟨rfl,rfl⟩,?_⟩ | refine ⟨_,_,⟨rfl,rfl⟩,?_⟩ | refine ⟨_,(fun _=>⟨rfl,rfl⟩),?_⟩ | refine And.intro (a:=chkPend _ _ _ _ _ _) ?_ ?_ | refine And.intro (a:=chkPast _ _ _ _ _ _ _ _) ?_ ?_ | refine ⟨⟨rfl,rfl⟩,?_⟩ | refine And.intro (And.intro rfl rfl) ?_ | refine ⟨True.intro,?_⟩ | refine ⟨_,⟨_,rfl,?_,rfl,rfl,rfl⟩,?_⟩ | refine ⟨_,rfl,?_,rfl,?_⟩ | refine ⟨_,(fun _=>rfl),rfl,?_⟩ | refine ⟨(fun _=>rfl),?_⟩ | refine ⟨rfl,?_⟩ | refine Opt.a ?_ | fail)
  refine ⟨Gp.Port,portV,[⟨1,0⟩],LeL.refl _,?_⟩
  repeat' (first | exact True.intro | refine ⟨_,LeL.refl _,?_⟩ | refine ⟨_,_,_,LeL.refl _,?_⟩ | (refine fun (b : Bool) hb=>?_; cases b <;> (first | exact absurd hb (by decide) | exact Bool.noConfusion (show true = false from hb) | exact Bool.noConfusion (show false = true from hb) | skip)) | (refine fun (hl : _ ≤ MAXL)=>?_) | refine And.intro (a:=I64 _) ?_ ?_ | refine And.intro (a:=_ ≤ 140737488355328) ?_ ?_ | refine ⟨_,⟨rfl,rfl⟩,?_⟩ | refine ⟨_,And.intro (a:=I64 _) ?_ ⟨rfl,rfl⟩,?_⟩ | refine ⟨_,_,⟨rfl,rfl⟩,?_⟩ | refine ⟨_,(fun _=>⟨rfl,rfl⟩),?_⟩ | refine And.intro (a:=chkPend _ _ _ _ _ _) ?_ ?_ | refine And.intro (a:=chkPast _ _ _ _ _ _ _ _) ?_ ?_ | refine ⟨⟨rfl,rfl⟩,?_⟩ | refine And.intro (And.intro rfl rfl) ?_ | refine ⟨True.intro,?_⟩ | refine ⟨_,⟨_,rfl,?_,rfl,rfl,rfl⟩,?_⟩ | refine ⟨_,rfl,?_,rfl,?_⟩ | refine ⟨_,(fun _=>rfl),rfl,?_⟩ | refine ⟨(fun _=>rfl),?_⟩ | refine ⟨rfl,?_⟩ | refine Opt.a ?_ | fail)
  refine ⟨Gp.Port,portV,[⟨1,1⟩],LeL.refl _,?_⟩
  repeat' (first | exact True.intro | refine ⟨_,LeL.refl _,?_⟩ | refine ⟨_,_,_,LeL.refl _,?_⟩ | (refine fun (b : Bool) hb=>?_; cases b <;> (first | exact absurd hb (by decide) | exact Bool.noConfusion (show true = false from hb) | exact Bool.noConfusion (show false = true from hb) | skip)) | (refine fun (hl : _ ≤ MAXL)=>?_) | refine And.intro (a:=I64 _) ?_ ?_ | refine And.intro (a:=_ ≤ 140737488355328) ?_ ?_ | refine ⟨_,⟨rfl,rfl⟩,?_⟩ | refine ⟨_,And.intro (a:=I64 _) ?_ ⟨rfl,rfl⟩,?_⟩ | refine ⟨_,_,⟨rfl,rfl⟩,?_⟩ | refine ⟨_,(fun _=>⟨rfl,rfl⟩),?_⟩ | refine And.intro (a:=chkPend _ _ _ _ _ _) ?_ ?_ | refine And.intro (a:=chkPast _ _ _ _ _ _ _ _) ?_ ?_ | refine ⟨⟨rfl,rfl⟩,?_⟩ | refine And.intro (And.intro rfl rfl) ?_ | refine ⟨True.intro,?_⟩ | refine ⟨_,⟨_,rfl,?_,rfl,rfl,rfl⟩,?_⟩ | refine ⟨_,rfl,?_,rfl,?_⟩ | refine ⟨_,(fun _=>rfl),rfl,?_⟩ | refine ⟨(fun _=>rfl),?_⟩ | refine ⟨rfl,?_⟩ | refine Opt.a ?_ | fail)
  refine ⟨Gp.Port,portV,[⟨2,0⟩,⟨3,0⟩],LeL.refl _,?_⟩
  repeat' (first | exact True.intro | refine ⟨_,LeL.refl _,?_⟩ | refine ⟨_,_,_,LeL.refl _,?_⟩ | (refine fun (b : Bool) hb=>?_; cases b <;> (first | exact absurd hb (by decide) | exact Bool.noConfusion (show true = false from hb) | exact Bool.noConfusion (show false = true from hb) | skip)) | (refine fun (hl : _ ≤ MAXL)=>?_) | refine And.intro (a:=I64 _) ?_ ?_ | refine And.intro (a:=_ ≤ 140737488355328) ?_ ?_ | refine ⟨_,⟨rfl,rfl⟩,?_⟩ | refine ⟨_,And.intro (a:=I64 _) ?_ ⟨rfl,rfl⟩,?_⟩ | refine ⟨_,_,⟨rfl,rfl⟩,?_⟩ | refine ⟨_,(fun _=>⟨rfl,rfl⟩),?_⟩ | refine And.intro (a:=chkPend _ _ _ _ _ _) ?_ ?_ | refine And.intro (a:=chkPast _ _ _ _ _ _ _ _) ?_ ?_ | refine ⟨⟨rfl,rfl⟩,?_⟩ | refine And.intro (And.intro rfl rfl) ?_ | refine ⟨True.intro,?_⟩ | refine ⟨_,⟨_,rfl,?_,rfl,rfl,rfl⟩,?_⟩ | refine ⟨_,rfl,?_,rfl,?_⟩ | refine ⟨_,(fun _=>rfl),rfl,?_⟩ | refine ⟨(fun _=>rfl),?_⟩ | refine ⟨rfl,?_⟩ | refine Opt.a ?_ | fail)
  refine ⟨Gp.Port,portV,[⟨4,0⟩],LeL.refl _,?_⟩
  repeat' (first | exact True.intro | refine ⟨_,LeL.refl _,?_⟩ | refine ⟨_,_,_,LeL.refl _,?_⟩ | (refine fun (b : Bool) hb=>?_; cases b <;> (first | exact absurd hb (by decide) | exact Bool.noConfusion (show true = false from hb) | exact Bool.noConfusion (show false = true from hb) | skip)) | (refine fun (hl : _ ≤ MAXL)=>?_) | refine And.intro (a:=I64 _) ?_ ?_ | refine And.intro (a:=_ ≤ 140737488355328) ?_ ?_ | refine ⟨_,⟨rfl,rfl⟩,?_⟩ | refine ⟨_,And.intro (a:=I64 _) ?_ ⟨rfl,rfl⟩,?_⟩ | refine ⟨_,_,⟨rfl,rfl⟩,?_⟩ | refine ⟨_,(fun _=>⟨rfl,rfl⟩),?_⟩ | refine And.intro (a:=chkPend _ _ _ _ _ _) ?_ ?_ | refine And.intro (a:=chkPast _ _ _ _ _ _ _ _) ?_ ?_ | refine ⟨⟨rfl,rfl⟩,?_⟩ | refine And.intro (And.intro rfl rfl) ?_ | refine ⟨True.intro,?_⟩ | refine ⟨_,⟨_,rfl,?_,rfl,rfl,rfl⟩,?_⟩ | refine ⟨_,rfl,?_,rfl,?_⟩ | refine ⟨_,(fun _=>rfl),rfl,?_⟩ | refine ⟨(fun _=>rfl),?_⟩ | refine ⟨rfl,?_⟩ | refine Opt.a ?_ | fail)
  refine ⟨Gp.Node,nodeV,sorterNodes,LeL.refl _,?_⟩
  exact hK
end Gv
namespace Gv
variable [Glob] [Laid]
def fileA : FileS:=⟨[97],[51,10,49,10,50,10,48]⟩
theorem flow1 : checkG sorterNodes = 0:=by decide +kernel
theorem flow3 : checkFiles [fileA] = 0:=by decide +kernel
theorem flow4 : sortB [[51],[49]] = [[49],[51]]:=sortB_of (by decide) (by decide)
theorem flow5 : sortB [[50],[48]] = [[48],[50]]:=sortB_of (by decide) (by decide)
theorem flow6 : evalG sorterNodes [fileA] = ([48,10,49,10,50,10,51,10],0):=by
  have h1 : makeN (srcN [97]) [fileA] [] = [[51,10,49,10,50,10,48,10]]:=by decide +kernel
  have h2 : makeN (splitN 2 [⟨0,0⟩]) [fileA] [[51,10,49,10,50,10,48,10]] = [[51,10,49,10],[50,10,48,10]]:=by decide +kernel
  have h3 : makeN (workN ⟨6,[],0⟩ [⟨1,0⟩]) [fileA] [[51,10,49,10]] = [[49,10,51,10]]:=by
    show [put (sortB (linesOf [51,10,49,10]))] = _
    rw [show linesOf [51,10,49,10] = [[51],[49]] by decide +kernel,flow4]
    decide +kernel
  have h4 : makeN (workN ⟨6,[],0⟩ [⟨1,1⟩]) [fileA] [[50,10,48,10]] = [[48,10,50,10]]:=by
    show [put (sortB (linesOf [50,10,48,10]))] = _
    rw [show linesOf [50,10,48,10] = [[50],[48]] by decide +kernel,flow5]
    decide +kernel
  have h5 : makeN (joinN 2 zCmd [⟨2,0⟩,⟨3,0⟩]) [fileA] [[49,10,51,10],[48,10,50,10]] = [[48,10,49,10,50,10,51,10]]:=by decide +kernel
  unfold evalG
  rw [flow1,flow3,if_neg (by simp),if_neg (by simp)]
  unfold sorterNodes
  rw [evalGo,if_neg (by decide),show insOf [] (srcN [97]).ins = [] from rfl,h1,List.nil_append]
  rw [evalGo,if_neg (by decide),show insOf [[[51,10,49,10,50,10,48,10]]] (splitN 2 [⟨0,0⟩]).ins = [[51,10,49,10,50,10,48,10]] from rfl,h2]
  rw [evalGo,if_neg (by decide)]
  show evalGo _ _ (_ ++ [makeN (workN ⟨6,[],0⟩ [⟨1,0⟩]) [fileA] [[51,10,49,10]]]) = _
  rw [h3,evalGo,if_neg (by decide)]
  show evalGo _ _ (_ ++ [makeN (workN ⟨6,[],0⟩ [⟨1,1⟩]) [fileA] [[50,10,48,10]]]) = _
  rw [h4,evalGo,if_neg (by decide)]
  show evalGo _ _ (_ ++ [makeN (joinN 2 zCmd [⟨2,0⟩,⟨3,0⟩]) [fileA] [[49,10,51,10],[48,10,50,10]]]) = _
  rw [h5,evalGo,if_pos (by decide)]
  rfl
end Gv
namespace Gv
variable [Glob] [Laid] [Nums] [Errs]
def newP (g : List Gp.Node) (f : List FileS) (rm : Int) : MachS × Int:=if checkG g ≠ 0 then (zM,checkG g) else if checkFiles f ≠ 0 then (zM,checkFiles f) else if rm < 1 ∨ 1000 < rm then (zM,3) else (freshM g f rm,0)
theorem leL_rep (c : Nat) : LeL (List.replicate c V.nil) ((List.replicate c ([] : Bs)).map blV):=by
  induction c with
  | zero=>exact LeL.refl _
  | succ c ih =>
    rw [List.replicate_succ,List.replicate_succ,List.map_cons]
    refine LeL.cons ⟨rfl,fun j v v' h h'=>?_⟩ ih
    match j,h,h' with
    | 0,h,h' =>
      simp [V.cells] at h
      subst h
      have : blV [] = v':=by simpa [V.cells,blV] using h'
      subst this
      exact V.Le.nil _
    | n + 1,h,_=>simp [V.cells] at h
theorem newX_ca : callable Tryz.prog 19 = true:=by kernel_rfl
def newX_S : Spec:=fun args K=>∃ (g : List Gp.Node) (f : List FileS) (rm : Int),args = [.agg [.sl nodeV g],.sl fileV f,.int .i64 rm] ∧ K (.tup [machV (newP g f rm).1,.int .i64 (newP g f rm).2])
noncomputable def newX_lib : List (Nat × Spec):=[(62,checkG_S),(32,cfiles_S),(63,copiedX_S),(64,copyF_S),(65,outs_S)]
noncomputable def newX_fns : List (Nat × FnI):=[]
noncomputable def newX_prims : List (Nat × PSpec):=[]
theorem newX_E : EnvOK ⟨Tryz.prog,tys,newX_lib,newX_fns,newX_prims,[]⟩:=env_ok mixed0 tys0 (.cons checkG_ca checkG_ok (.cons cfiles_ca cfiles_ok (.cons copiedX_ca copiedX_ok (.cons copyF_ca copyF_ok (.cons outs_ca outs_ok .nil))))) .nil .nil rfl
set_option maxHeartbeats 16000000 in
theorem newX_ok : Pure Tryz.prog 19 newX_S:=by
  refine pure_by newX_E 6 (fi:={fn:=Tryz.f19,hooks:=[4,7,9,19],draws:=[(21,[0,1,0,4,12,28,0,64,192,508,1020,2047,4095,8191])]}) ⟨Tryz.func19,by kernel_rfl,by kernel_rfl⟩ ?_
  rintro _ K ⟨g,f,rm,rfl,hK⟩
  replace hK : ∀ r,r = .tup [machV (newP g f rm).1,.int .i64 (newP g f rm).2] → K r:=fun r h=>h ▸ hK
  conv=>whnf
  refine join_live [1,2,3,6] (σ:=Unit) (fun _=>[]) (fun _=>[.box [.sl nodeV g],.box [.nil,.nil,.nil,.nil,.nil]]) (fun _=>checkG g = 0) ?_
  conv=>whnf
  refine ⟨?_,fun _ h4=>?_⟩
  · conv=>whnf
    skip
    refine ⟨g,rfl,?_⟩
    repeat' first | (refine fun (b : Bool) hb=>?_; cases b <;> (first | exact absurd hb (by decide) | exact Bool.noConfusion (show true = false from hb) | exact Bool.noConfusion (show false = true from hb) | skip)) | fail
    · exact ⟨(),(by (refine wk_auto ?_; refine Sel4.mk rfl rfl ?_ ?_ <;> (repeat' (first | exact True.intro | exact rfl | exact Or.inl rfl | exact Or.inr rfl | refine And.intro ?_ ?_ | fail)))),by simpa using ‹(!decide (checkG g = 0)) = false›⟩
    · have h0 : ¬ checkG g = 0:=by simpa using ‹(!decide (checkG g = 0)) = true›
      conv=>whnf
      skip
      refine ⟨Gp.Node,nodeV,?_⟩
      refine ⟨FileS,fileV,?_⟩
      refine ⟨PipeS,pipeV,?_⟩
      refine ⟨ProcS,procV,?_⟩
      refine ⟨UInt8,byteV,?_⟩
      refine hK _ ?_
      unfold newP
      rw [if_pos h0]
      rfl
  conv=>whnf
  refine join_live [1,2,3,6] (σ:=Unit) (fun _=>[]) (fun _=>[.box [.sl nodeV g],.box [.nil,.nil,.nil,.nil,.nil]]) (fun _=>checkFiles f = 0) ?_
  conv=>whnf
  refine ⟨?_,fun _ h7=>?_⟩
  · conv=>whnf
    skip
    refine ⟨f,rfl,?_⟩
    repeat' first | (refine fun (b : Bool) hb=>?_; cases b <;> (first | exact absurd hb (by decide) | exact Bool.noConfusion (show true = false from hb) | exact Bool.noConfusion (show false = true from hb) | skip)) | fail
    · exact ⟨(),(by (refine wk_auto ?_; refine Sel4.mk rfl rfl ?_ ?_ <;> (repeat' (first | exact True.intro | exact rfl | exact Or.inl rfl | exact Or.inr rfl | refine And.intro ?_ ?_ | fail)))),by simpa using ‹(!decide (checkFiles f = 0)) = false›⟩
    · have h0 : ¬ checkFiles f = 0:=by simpa using ‹(!decide (checkFiles f = 0)) = true›
      conv=>whnf
      skip
      refine ⟨Gp.Node,nodeV,?_⟩
      refine ⟨FileS,fileV,?_⟩
      refine ⟨PipeS,pipeV,?_⟩
      refine ⟨ProcS,procV,?_⟩
      refine ⟨UInt8,byteV,?_⟩
      refine hK _ ?_
      unfold newP
      rw [if_neg (by rw [h4]; decide),if_pos h0]
      rfl
  conv=>whnf
  refine join_live [1,2,3,6] (σ:=Unit) (fun _=>[]) (fun _=>[.box [.sl nodeV g],.box [.nil,.nil,.nil,.nil,.nil]]) (fun _=>¬ (rm < 1 ∨ 1000 < rm)) ?_
  conv=>whnf
  refine ⟨?_,fun _ h9=>?_⟩
  · conv=>whnf
    repeat' first | (refine fun (b : Bool) hb=>?_; cases b <;> (first | exact absurd hb (by decide) | exact Bool.noConfusion (show true = false from hb) | exact Bool.noConfusion (show false = true from hb) | skip)) | fail
    all_goals (try (conv=>whnf))
    all_goals (skip)
    all_goals (try (conv=>whnf))
    all_goals (skip)
    · exact ⟨(),(by (refine wk_auto ?_; refine Sel4.mk rfl rfl ?_ ?_ <;> (repeat' (first | exact True.intro | exact rfl | exact Or.inl rfl | exact Or.inr rfl | refine And.intro ?_ ?_ | fail)))),by grind⟩
    · have hr : rm < 1 ∨ 1000 < rm:=by grind
      refine ⟨Gp.Node,nodeV,?_⟩
      refine ⟨FileS,fileV,?_⟩
      refine ⟨PipeS,pipeV,?_⟩
      refine ⟨ProcS,procV,?_⟩
      refine ⟨UInt8,byteV,?_⟩
      refine hK _ ?_
      unfold newP
      rw [if_neg (by rw [h4]; decide),if_neg (by rw [h7]; decide),if_pos hr]
      rfl
    · have hr : rm < 1 ∨ 1000 < rm:=by grind
      refine ⟨Gp.Node,nodeV,?_⟩
      refine ⟨FileS,fileV,?_⟩
      refine ⟨PipeS,pipeV,?_⟩
      refine ⟨ProcS,procV,?_⟩
      refine ⟨UInt8,byteV,?_⟩
      refine hK _ ?_
      unfold newP
      rw [if_neg (by rw [h4]; decide),if_neg (by rw [h7]; decide),if_pos hr]
      rfl
  have hgf:=gf_of h4
  have hff:=checkFiles_ok h7
  conv=>whnf
  skip
  refine ⟨g,rfl,⟨by have:=hgf.len.2; omega,fun n hn=>?_⟩,?_⟩
  · obtain ⟨i,hi,rfl⟩:=List.getElem_of_mem hn
    have:=ins_le (hgf.node i hi)
    rw [ndG_at hi] at this
    omega
  skip
  refine ⟨f,rfl,⟨by omega,fun x hx=>by have:=(hff.2 x hx).2; omega⟩,?_⟩
  have hin:=allIns_small h4
  conv=>whnf
  repeat' first | (refine fun (hl : _ ≤ MAXL)=>?_) | fail
  conv=>whnf
  refine loop_live [2,3,6,10,41,42] (σ:=Nat) (fun k=>[(43,.int .i64 k)]) (fun k=>[.box [.sl nodeV g],.box [.nil,.nil,.nil,.nil,.nil],.box [.sl nodeV g,.sl fileV f,.own 3,.own 4,.nil],.row 4 (((allIns (g.take k)).map (freshQ g rm)).map pipeV),.row 5 (((g.take k).map freshP).map procV)]) (fun k=>k ≤ g.length) (fun k=>g.length - k) 0 ?_
  conv=>whnf
  refine ⟨(by (refine wk_sel [some 0,some 1,some 2,none,none] rfl rfl ?_ ?_ <;> (repeat' (first | exact True.intro | exact rfl | exact Or.inl rfl | exact Or.inr rfl | refine And.intro ?_ ?_ | fail)))),Nat.zero_le _,fun k hk=>?_⟩
  repeat' first | refine ⟨_,_,_,LeL.refl _,?_⟩ | (refine fun (b : Bool) hb=>?_; cases b <;> (first | exact absurd hb (by decide) | exact Bool.noConfusion (show true = false from hb) | exact Bool.noConfusion (show false = true from hb) | skip)) | (refine fun (hl : _ ≤ MAXL)=>?_) | refine ⟨_,rfl,?_,rfl,?_⟩ | fail
  · have hkl : k = g.length := by
      have h:=of_decide_eq_false (by assumption : decide ((k : Int) < (g.length : Int)) = false)
      omega
    subst hkl
    conv=>whnf
    skip
    refine ⟨UInt8,byteV,?_⟩
    refine hK _ ?_
    unfold newP
    rw [if_neg (by rw [h4]; decide),if_neg (by rw [h7]; decide),if_neg h9,List.take_length]
    rfl
  · have h:=of_decide_eq_true (by assumption : decide ((k : Int) < (g.length : Int)) = true)
    omega
  have hk2 : k < g.length:=by
    have h:=of_decide_eq_true (by assumption : decide ((k : Int) < (g.length : Int)) = true)
    omega
  have hcn:=hgf.node k hk2
  have hi5:=ins_le hcn
  rw [ndG_at hk2] at hi5 hcn
  have hsp : allIns (g.take (k + 1)) = allIns (g.take k) ++ g[k].ins:=by
    rw [List.take_succ_eq_append_getElem hk2,allIns_app]
    simp [allIns]
  have hsl : (allIns (g.take (k + 1))).length ≤ (allIns g).length:=by
    conv=>rhs; rw [← List.take_append_drop (k + 1) g,allIns_app,List.length_append]
    omega
  rw [hsp,List.length_append] at hsl
  conv=>whnf
  skip
  conv=>whnf
  refine loop_live [2,3,6,10,12,41,42,43,48,49] (σ:=Nat) (fun j=>[(50,.int .i64 j)]) (fun j=>[.box [.sl nodeV g],.box [.nil,.nil,.nil,.nil,.nil],.box [.sl nodeV g,.sl fileV f,.own 3,.own 4,.nil],.row 4 (((allIns (g.take k) ++ g[k].ins.take j).map (freshQ g rm)).map pipeV),.row 5 (((g.take k).map freshP).map procV),.box (nodeV g[k]).cells]) (fun j=>j ≤ g[k].ins.length) (fun j=>g[k].ins.length - j) 0 ?_
  conv=>whnf
  refine ⟨?_,Nat.zero_le _,fun j hj=>?_⟩
  · have e : allIns (g.take k) ++ g[k].ins.take 0 = allIns (g.take k):=by simp
    rw [e]
    exact (by (refine wk_sel [some 0,some 1,some 2,some 3,some 4,some 5] rfl rfl ?_ ?_ <;> (repeat' (first | exact True.intro | exact rfl | exact Or.inl rfl | exact Or.inr rfl | refine And.intro ?_ ?_ | fail))))
  repeat' first | exact True.intro | (refine fun (b : Bool) hb=>?_; cases b <;> (first | exact absurd hb (by decide) | exact Bool.noConfusion (show true = false from hb) | exact Bool.noConfusion (show false = true from hb) | skip)) | refine ⟨_,⟨rfl,rfl⟩,?_⟩ | refine ⟨_,(fun _=>⟨rfl,rfl⟩),?_⟩ | refine And.intro (a:=chkPast _ _ _ _ _ _ _ _) ?_ ?_ | refine ⟨_,rfl,?_,rfl,?_⟩ | fail
  · have hjl : j = g[k].ins.length := by
      have h:=of_decide_eq_false (by assumption : decide ((j : Int) < (g[k].ins.length : Int)) = false)
      omega
    subst hjl
    have ho5:=outsN_bnd hcn
    conv=>whnf
    skip
    conv=>whnf
    skip
    apply Exists.intro
    apply And.intro
    · refine ⟨rfl,g[k].ins.length,rfl,by show g[k].ins.length * 24 ≤ _; omega,Bs,blV,List.replicate g[k].ins.length [],leL_rep _,?_⟩
      exact ⟨rfl,rfl⟩
    conv=>whnf
    repeat' first | exact True.intro | refine ⟨_,⟨rfl,rfl⟩,?_⟩ | refine And.intro (a:=chkPast _ _ _ _ _ _ _ _) ?_ ?_ | fail
    conv=>whnf
    skip
    apply Exists.intro
    apply And.intro
    · refine ⟨g[k],rfl,?_⟩
      exact ⟨rfl,rfl⟩
    conv=>whnf
    skip
    apply Exists.intro
    apply And.intro
    · refine ⟨rfl,(outsN g[k]).toNat,by omega,by show (outsN g[k]).toNat * 24 ≤ _; omega,Bs,blV,List.replicate (outsN g[k]).toNat [],leL_rep _,?_⟩
      exact ⟨rfl,rfl⟩
    conv=>whnf
    repeat' first | refine ⟨_,⟨rfl,rfl⟩,?_⟩ | fail
    conv=>whnf
    skip
    refine ⟨_,⟨ProcS,procV,[freshP g[k]],LeL.refl _,rfl,rfl⟩,?_⟩
    conv=>whnf
    skip
    apply Exists.intro
    apply Exists.intro
    apply And.intro
    · refine ⟨fun _=>rfl,?_,rfl,rfl⟩
      show ((((g.take k).map freshP).map procV).length + 1) * 64 ≤ 140737488355328
      rw [List.length_map,List.length_map,List.length_take]
      have:=hgf.len.2
      omega
    conv=>whnf
    repeat' first | exact True.intro | refine And.intro (a:=I64 _) ?_ ?_ | refine ⟨_,⟨rfl,rfl⟩,?_⟩ | refine ⟨_,_,⟨rfl,rfl⟩,?_⟩ | refine And.intro (a:=chkPend _ _ _ _ _ _) ?_ ?_ | fail
    conv=>whnf
    skip
    · have:=hgf.len.2
      (try unfold I64); omega
    refine ⟨k + 1,?_,hk2,by omega⟩
    have e1 : ((allIns (g.take (k + 1))).map (freshQ g rm)).map pipeV = ((allIns (g.take k) ++ g[k].ins.take g[k].ins.length).map (freshQ g rm)).map pipeV:=by rw [hsp,List.take_length]
    have e2 : ((g.take (k + 1)).map freshP).map procV = ((g.take k).map freshP).map procV ++ [freshP g[k]].map procV:=by
      rw [List.take_succ_eq_append_getElem hk2,List.map_append,List.map_append]; rfl
    show Wk _ _ _ _ [.box [.sl nodeV g],.box [.nil,.nil,.nil,.nil,.nil],.box [.sl nodeV g,.sl fileV f,.own 3,.own 4,.nil],.row 4 (((allIns (g.take (k + 1))).map (freshQ g rm)).map pipeV),.row 5 (((g.take (k + 1)).map freshP).map procV)]
    rw [e1,e2]
    exact (by (refine wk_sel [some 0,some 1,some 2,some 3,some 6] rfl rfl ?_ ?_ <;> (repeat' (first | exact True.intro | exact rfl | exact Or.inl rfl | exact Or.inr rfl | refine And.intro ?_ ?_ | fail))))
  · have h:=of_decide_eq_true (by assumption : decide ((j : Int) < (g[k].ins.length : Int)) = true)
    omega
  have hj2 : j < g[k].ins.length:=by
    have h:=of_decide_eq_true (by assumption : decide ((j : Int) < (g[k].ins.length : Int)) = true)
    omega
  obtain ⟨a,o,hpo,hal,-⟩:=hgf.port k hk2 j (by unfold nI; rw [ndG_at hk2]; exact hj2)
  have hpj : g[k].ins[j] = ⟨(a : Int),(o : Int)⟩:=by
    rw [← hpo]
    unfold inP
    rw [ndG_at hk2,List.getD_eq_getElem?_getD,List.getElem?_eq_getElem hj2]
    rfl
  have hag : a < g.length:=by omega
  have hfq : freshQ g rm g[k].ins[j] = ⟨[],if g[a].kind = 2 then 0 else rm,false,false⟩:=by
    rw [hpj]
    unfold freshQ
    dsimp only
    rw [Int.toNat_natCast,List.getD_eq_getElem?_getD,List.getElem?_eq_getElem hag]
    rfl
  conv=>whnf
  refine join_live [2,3,6,10,12,15,41,42,43,48,49,50] (σ:=Unit) (fun _=>[(15,.ptr 7 0 0)]) (fun _=>[.box [.sl nodeV g],.box [.nil,.nil,.nil,.nil,.nil],.box [.sl nodeV g,.sl fileV f,.own 3,.own 4,.nil],.row 4 (((allIns (g.take k) ++ g[k].ins.take j).map (freshQ g rm)).map pipeV),.row 5 (((g.take k).map freshP).map procV),.box (nodeV g[k]).cells,.box (portV g[k].ins[j]).cells,.box [.nil,.int .i64 (if g[a].kind = 2 then 0 else rm),.lit false,.lit false]]) (fun _=>True) ?_
  conv=>whnf
  refine ⟨?_,fun _ _=>?_⟩
  · conv=>whnf
    skip
    refine ⟨a,by rw [hpj],hag,rfl,?_⟩
    repeat' first | (refine fun (b : Bool) hb=>?_; cases b <;> (first | exact absurd hb (by decide) | exact Bool.noConfusion (show true = false from hb) | exact Bool.noConfusion (show false = true from hb) | skip)) | fail
    · have h2 : ¬ g[a].kind = 2:=of_decide_eq_false (by assumption)
      conv=>whnf
      skip
      rw [if_neg h2]
      exact ⟨(),(by (refine wk_sel [some 0,some 1,some 2,some 3,some 4,some 5,some 6,some 7] rfl rfl ?_ ?_ <;> (repeat' (first | exact True.intro | exact rfl | exact Or.inl rfl | exact Or.inr rfl | refine And.intro ?_ ?_ | fail)))),trivial⟩
    · have h2 : g[a].kind = 2:=of_decide_eq_true (by assumption)
      conv=>whnf
      skip
      rw [if_pos h2]
      exact ⟨(),(by (refine wk_sel [some 0,some 1,some 2,some 3,some 4,some 5,some 6,some 7] rfl rfl ?_ ?_ <;> (repeat' (first | exact True.intro | exact rfl | exact Or.inl rfl | exact Or.inr rfl | refine And.intro ?_ ?_ | fail)))),trivial⟩
  conv=>whnf
  skip
  refine ⟨UInt8,byteV,?_⟩
  repeat' first | refine And.intro (a:=I64 _) ?_ ?_ | refine And.intro (a:=_ ≤ 140737488355328) ?_ ?_ | refine ⟨rfl,?_⟩ | fail
  · show ((((allIns (g.take k) ++ g[k].ins.take j).map (freshQ g rm)).map pipeV).length + 1) * 40 ≤ 140737488355328
    rw [List.length_map,List.length_map,List.length_append,List.length_take]
    omega
  · unfold I64; omega
  refine ⟨j + 1,?_,hj2,by omega⟩
  show Wk _ _ _ _ [.box [.sl nodeV g],.box [.nil,.nil,.nil,.nil,.nil],.box [.sl nodeV g,.sl fileV f,.own 3,.own 4,.nil],.row 4 (((allIns (g.take k) ++ g[k].ins.take (j + 1)).map (freshQ g rm)).map pipeV),.row 5 (((g.take k).map freshP).map procV),.box (nodeV g[k]).cells]
  have e1 : ((allIns (g.take k) ++ g[k].ins.take (j + 1)).map (freshQ g rm)).map pipeV = ((allIns (g.take k) ++ g[k].ins.take j).map (freshQ g rm)).map pipeV ++ [.agg [.sl byteV [],.int .i64 (if g[a].kind = 2 then 0 else rm),.bool false,.bool false]]:=by
    rw [List.take_succ_eq_append_getElem hj2,← List.append_assoc,List.map_append,List.map_append,List.map_cons,List.map_nil,hfq]
    rfl
  rw [e1]
  exact (by (refine wk_sel [some 0,some 1,some 2,some 9,some 4,some 5] rfl rfl ?_ ?_ <;> (repeat' (first | exact True.intro | exact rfl | exact Or.inl rfl | exact Or.inr rfl | refine And.intro ?_ ?_ | fail))))
end Gv
namespace Gv
variable [Glob] [Laid]
theorem copyG_ca : callable Tryz.prog 54 = true:=by kernel_rfl
def copyG_P : PSpec:=fun args rows K=>∃ (m : MachS),args = [machV m] ∧ copyZ m ∧ ∀ Q,numK rows.length fun a=>numK (Nat.add rows.length 1) fun b=>appK rows [.row 4 (m.pipes.map pipeV),.row 5 (procEls Q m.p),.pack Q (subsOf m.p)] fun rows'=>K (.agg [.sl nodeV m.g,.sl fileV m.f,.own a,.own b,.sl byteV m.sunk]) rows'
set_option maxHeartbeats 4000000 in
theorem copyG_prim : PrimOK Tryz.prog 54 copyG_P:=by
  intro w0 m0 args rows K R m' q w us C hv hT
  obtain ⟨m,rfl,hz,hK⟩:=hT
  refine shift_ok (prim_cutA copyX_prim) C (vrl_agg hv rfl) ⟨m,rfl,rfl,hz,fun Q ex=>⟨[.row 4 (m.pipes.map pipeV),.row 5 (procEls Q m.p),.pack Q (subsOf m.p)],ex,_,rfl,Nat.zero_le _,?_,rfl,?_,?_,_,rfl,?_,?_⟩⟩
  · intro y hy
    simp only [List.mem_cons,List.not_mem_nil,or_false] at hy
    rcases hy with rfl | rfl | rfl <;> rfl
  · intro c hc
    simp only [List.mem_cons,List.not_mem_nil,or_false] at hc
    rcases hc with rfl | rfl | rfl | rfl | rfl
    · exact .inl rfl
    · exact .inl rfl
    · exact .inr ⟨0,by simp,rfl⟩
    · exact .inr ⟨1,by simp,rfl⟩
    · exact .inl rfl
  · intro y hy
    simp only [List.mem_cons,List.not_mem_nil,or_false] at hy
    rcases hy with rfl | rfl | rfl <;> rfl
  · intro c hc
    simp only [List.mem_cons,List.not_mem_nil,or_false] at hc
    rcases hc with rfl | rfl | rfl | rfl | rfl
    · exact .inl rfl
    · exact .inl rfl
    · exact .inr ⟨0,rfl⟩
    · exact .inr ⟨1,rfl⟩
    · exact .inl rfl
  · exact appK_ok _ _ _ (numK_eq _ _ (numK_eq _ _ (hK Q)))
end Gv
namespace Gv
variable [Glob] [Laid] [Nums] [Errs]
def stepG_P : PSpec:=fun args rows K=>StepG stepZ args rows K
set_option maxHeartbeats 4000000 in
theorem stepG_prim : PrimOK Tryz.prog 55 stepG_P:=by
  exact step_among stepF_prim
end Gv
namespace Gv
variable [Glob] [Laid] [Nums] [Errs]
theorem stepH_ca : callable Tryz.prog 55 = true:=by kernel_rfl
def stepH_P : PSpec:=fun args rows K=>∃ (m : MachS) (i r0 r1 r2 r3 : Nat) (Q : Loc),args = [.ptr r0 0 0,.int .i64 i] ∧ rows[r0]? = some (.box [.sl nodeV m.g,.sl fileV m.f,.own r1,.own r2,.sl byteV m.sunk]) ∧ rows[r1]? = some (.row 4 (m.pipes.map pipeV)) ∧ rows[r2]? = some (.row 5 (procEls Q m.p)) ∧ rows[r3]? = some (.pack Q (subsOf m.p)) ∧ FocM m i ∧ stepZ m i ∧ setK rows r0 (.box [.sl nodeV (stepM m i).1.g,.sl fileV (stepM m i).1.f,.own r1,.own r2,.sl byteV (stepM m i).1.sunk]) fun a=>setK a r1 (.row 4 ((stepM m i).1.pipes.map pipeV)) fun b=>setK b r2 (.row 5 (procEls Q (stepM m i).1.p)) fun c=>setK c r3 (.pack Q (subsOf (stepM m i).1.p)) fun d=>K (.int .i64 (stepM m i).2) d
set_option maxHeartbeats 4000000 in
theorem stepH_prim : PrimOK Tryz.prog 55 stepH_P:=by
  intro w0 m0 args rows K R m' q w us C hv hT
  obtain ⟨m,i,r0,r1,r2,r3,Q,rfl,h0,h1,h2,h3,hF,hZ,hK⟩:=hT
  refine stepG_prim w0 m0 _ _ K R m' q w us C hv ⟨m,i,r0,r1,r2,r3,Q,rfl,h0,h1,h2,h3,hF.foc,hZ,?_⟩
  exact (setK_ok _ _ _ _ (setK_ok _ _ _ _ (setK_ok _ _ _ _ (setK_ok _ _ _ _ hK).2).2).2).2
end Gv
namespace Gv
variable [Glob] [Laid] [Nums] [Errs]
def stepP (m : MachS) (i : Int) : MachS × Int:=if checkMach m ≠ 0 then (zM,checkMach m) else if i < 0 ∨ (m.p.length : Int) ≤ i then (zM,5) else if (stepM m i.toNat).2 ≠ 0 then (zM,(stepM m i.toNat).2) else ((stepM m i.toNat).1,0)
theorem stepX_ca : callable Tryz.prog 12 = true:=by kernel_rfl
def stepX_S : Spec:=fun args K=>∃ (m : MachS) (i : Int),args = [machV m,.int .i64 i] ∧ K (.tup [machV (stepP m i).1,.int .i64 (stepP m i).2])
noncomputable def stepX_lib : List (Nat × Spec):=[(41,checkMX_S)]
noncomputable def stepX_fns : List (Nat × FnI):=[(54,{ fn:=Tryz.f54,spec:=some copyG_P }),(55,{ fn:=Tryz.f55,spec:=some stepH_P })]
noncomputable def stepX_prims : List (Nat × PSpec):=[]
theorem stepX_E : EnvOK ⟨Tryz.prog,tys,stepX_lib,stepX_fns,stepX_prims,[]⟩:=env_ok mixed0 tys0 (.cons checkMX_ca checkMX_ok .nil) (.told copyG_ca rfl copyG_prim (.told stepH_ca rfl stepH_prim .nil)) .nil rfl
set_option maxHeartbeats 16000000 in
theorem stepX_ok : Pure Tryz.prog 12 stepX_S:=by
  refine pure_by stepX_E 6 (fi:={fn:=Tryz.f12,hooks:=[10],draws:=[]}) ⟨Tryz.func12,by kernel_rfl,by kernel_rfl⟩ ?_
  rintro _ K ⟨m,i,rfl,hK⟩
  replace hK : ∀ r,r = .tup [machV (stepP m i).1,.int .i64 (stepP m i).2] → K r:=fun r h=>h ▸ hK
  skip
  refine ⟨m,rfl,?_⟩
  repeat' first | (refine fun (b : Bool) hb=>?_; cases b <;> (first | exact absurd hb (by decide) | exact Bool.noConfusion (show true = false from hb) | exact Bool.noConfusion (show false = true from hb) | skip)) | (refine fun (hl : _ ≤ MAXL)=>?_) | fail
  all_goals (try (conv=>whnf))
  all_goals (skip)
  rotate_left
  · have h0 : checkMach m = 0:=by simpa using ‹(!decide (checkMach m = 0)) = false›
    have hi:=of_decide_eq_true (by assumption : decide ((m.p.length : Int) ≤ i) = true)
    refine ⟨Gp.Node,nodeV,?_⟩
    refine ⟨FileS,fileV,?_⟩
    refine ⟨PipeS,pipeV,?_⟩
    refine ⟨ProcS,procV,?_⟩
    refine ⟨UInt8,byteV,?_⟩
    refine hK _ ?_
    unfold stepP
    rw [if_neg (by rw [h0]; decide),if_pos (.inr hi)]
    rfl
  · have h0 : checkMach m = 0:=by simpa using ‹(!decide (checkMach m = 0)) = false›
    have hi:=of_decide_eq_true (by assumption : decide (i < 0) = true)
    refine ⟨Gp.Node,nodeV,?_⟩
    refine ⟨FileS,fileV,?_⟩
    refine ⟨PipeS,pipeV,?_⟩
    refine ⟨ProcS,procV,?_⟩
    refine ⟨UInt8,byteV,?_⟩
    refine hK _ ?_
    unfold stepP
    rw [if_neg (by rw [h0]; decide),if_pos (.inl hi)]
    rfl
  · have h0 : checkMach m ≠ 0:=by simpa using ‹(!decide (checkMach m = 0)) = true›
    refine ⟨Gp.Node,nodeV,?_⟩
    refine ⟨FileS,fileV,?_⟩
    refine ⟨PipeS,pipeV,?_⟩
    refine ⟨ProcS,procV,?_⟩
    refine ⟨UInt8,byteV,?_⟩
    refine hK _ ?_
    unfold stepP
    rw [if_pos h0]
    rfl
  have h0 : checkMach m = 0:=by simpa using ‹(!decide (checkMach m = 0)) = false›
  have hi1:=of_decide_eq_false (by assumption : decide (i < 0) = false)
  have hi2:=of_decide_eq_false (by assumption : decide ((m.p.length : Int) ≤ i) = false)
  obtain ⟨k,rfl⟩ : ∃ k : Nat,i = k:=⟨i.toNat,by omega⟩
  have hkl : k < m.p.length:=by omega
  have R:=right_of h0
  obtain ⟨hF,hZ⟩:=right_foc R hkl
  have hP : stepP m (k : Int) = if (stepM m k).2 ≠ 0 then (zM,(stepM m k).2) else ((stepM m k).1,0):=by
    unfold stepP
    rw [if_neg (by rw [h0]; decide),if_neg (by omega),Int.toNat_natCast]
  refine ⟨m,rfl,right_copy R,fun Q=>?_⟩
  conv=>whnf
  skip
  conv=>whnf
  refine join_live [2,4] (σ:=Unit) (fun _=>[]) (fun _=>[.box [.sl nodeV (stepM m k).1.g,.sl fileV (stepM m k).1.f,.own 2,.own 3,.sl byteV (stepM m k).1.sunk],.box [.nil,.nil,.nil,.nil,.nil],.row 4 ((stepM m k).1.pipes.map pipeV),.row 5 ((stepM m k).1.p.map procV),.dead]) (fun _=>(stepM m k).2 = 0) ?_
  conv=>whnf
  refine ⟨?_,fun _ h2=>?_⟩
  · conv=>whnf
    skip
    refine ⟨m,k,0,2,3,4,Q,rfl,rfl,rfl,rfl,rfl,hF,hZ,?_⟩
    conv=>whnf
    repeat' first | (refine fun (b : Bool) hb=>?_; cases b <;> (first | exact absurd hb (by decide) | exact Bool.noConfusion (show true = false from hb) | exact Bool.noConfusion (show false = true from hb) | skip)) | fail
    · exact ⟨(),(wk_pack 3 4 rfl rfl).trans (by (refine wk_sel [some 0,some 1,some 2,some 3,some 4] rfl rfl ?_ ?_ <;> (repeat' (first | exact True.intro | exact rfl | exact Or.inl rfl | exact Or.inr rfl | refine And.intro ?_ ?_ | fail)))),by simpa using ‹(!decide ((stepM m k).2 = 0)) = false›⟩
    · have h2 : (stepM m k).2 ≠ 0:=by simpa using ‹(!decide ((stepM m k).2 = 0)) = true›
      conv=>whnf
      skip
      refine ⟨Gp.Node,nodeV,?_⟩
      refine ⟨FileS,fileV,?_⟩
      refine ⟨PipeS,pipeV,?_⟩
      refine ⟨ProcS,procV,?_⟩
      refine ⟨UInt8,byteV,?_⟩
      refine hK _ ?_
      rw [hP,if_pos h2]
      rfl
  conv=>whnf
  repeat' first | refine ⟨_,_,_,LeL.refl _,?_⟩ | fail
  conv=>whnf
  refine hK _ ?_
  rw [hP,if_neg (by rw [h2]; decide)]
  rfl
end Gv
namespace Gv
variable [Glob] [Laid] [Nums] [Errs]
theorem finX_ca : callable Tryz.prog 22 = true:=by kernel_rfl
def finX_S : Spec:=fun args K=>∃ (m : MachS) (n : Nat) (rr : MachS × Int) (I : MachS → Prop),args = [machV m] ∧ ((checkMach m = 0 → copyZ m ∧ I m ∧ Steps I ∧ FinN n m rr) ∧ (checkMach m ≠ 0 → rr = (zM,checkMach m))) ∧ K (.tup [machV rr.1,.int .i64 rr.2])
noncomputable def finX_lib : List (Nat × Spec):=[(41,checkMX_S)]
noncomputable def finX_fns : List (Nat × FnI):=[(54,{ fn:=Tryz.f54,spec:=some copyG_P }),(55,{ fn:=Tryz.f55,spec:=some stepH_P })]
noncomputable def finX_prims : List (Nat × PSpec):=[]
theorem finX_E : EnvOK ⟨Tryz.prog,tys,finX_lib,finX_fns,finX_prims,[]⟩:=env_ok mixed0 tys0 (.cons checkMX_ca checkMX_ok .nil) (.told copyG_ca rfl copyG_prim (.told stepH_ca rfl stepH_prim .nil)) .nil rfl
set_option maxHeartbeats 16000000 in
theorem finX_ok : Pure Tryz.prog 22 finX_S:=by
  refine pure_by finX_E 6 (fi:={fn:=Tryz.f22,hooks:=[10,12,13],draws:=[]}) ⟨Tryz.func22,by kernel_rfl,by kernel_rfl⟩ ?_
  rintro _ K ⟨m,n,rr,I,rfl,⟨hI,hJ⟩,hK⟩
  replace hK : ∀ r,r = .tup [machV rr.1,.int .i64 rr.2] → K r:=fun r h=>h ▸ hK
  skip
  refine ⟨m,rfl,?_⟩
  repeat' first | (refine fun (b : Bool) hb=>?_; cases b <;> (first | exact absurd hb (by decide) | exact Bool.noConfusion (show true = false from hb) | exact Bool.noConfusion (show false = true from hb) | skip)) | fail
  rotate_left
  · have h0 : checkMach m ≠ 0:=by simpa using ‹(!decide (checkMach m = 0)) = true›
    conv=>whnf
    skip
    refine ⟨Gp.Node,nodeV,?_⟩
    refine ⟨FileS,fileV,?_⟩
    refine ⟨PipeS,pipeV,?_⟩
    refine ⟨ProcS,procV,?_⟩
    refine ⟨UInt8,byteV,?_⟩
    refine hK _ ?_
    rw [hJ h0]
    rfl
  have h0 : checkMach m = 0:=by simpa using ‹(!decide (checkMach m = 0)) = false›
  obtain ⟨hz,hIm,hS,hF⟩:=hI h0
  conv=>whnf
  skip
  refine ⟨m,rfl,hz,fun Q=>?_⟩
  conv=>whnf
  skip
  conv=>whnf
  refine loop_live [1,2] (σ:=Nat × MachS) (fun s=>[]) (fun s=>[.box [.sl nodeV s.2.g,.sl fileV s.2.f,.own 2,.own 3,.sl byteV s.2.sunk],.box [.nil,.nil,.nil,.nil,.nil],.row 4 (s.2.pipes.map pipeV),.row 5 (procEls Q s.2.p),.pack Q (subsOf s.2.p)]) (fun s=>FinN s.1 s.2 rr ∧ I s.2) (fun s=>s.1) (n,m) ?_
  conv=>whnf
  refine ⟨(by (refine wk_sel [some 0,some 1,some 2,some 3,some 4] rfl rfl ?_ ?_ <;> (repeat' (first | exact True.intro | exact rfl | exact Or.inl rfl | exact Or.inr rfl | refine And.intro ?_ ?_ | fail)))),⟨hF,hIm⟩,fun s hs=>?_⟩
  obtain ⟨n,M⟩:=s
  obtain ⟨hF,hIM⟩:=hs
  dsimp only at hF hIM
  conv=>whnf
  skip
  conv=>whnf
  refine join_live [1,2] (σ:=MachS × Bool × Bool) (fun s=>[(5,.bool s.2.1),(6,.bool s.2.2)]) (fun s=>[.box [.sl nodeV s.1.g,.sl fileV s.1.f,.own 2,.own 3,.sl byteV s.1.sunk],.box [.nil,.nil,.nil,.nil,.nil],.row 4 (s.1.pipes.map pipeV),.row 5 (procEls Q s.1.p),.pack Q (subsOf s.1.p)]) (fun s=>s = rnd M ∧ I s.1) ?_
  conv=>whnf
  refine ⟨?_,fun s hs=>?_⟩
  · conv=>whnf
    repeat' first | (refine fun (hl : _ ≤ MAXL)=>?_) | fail
    conv=>whnf
    refine loop_live [1,2,18] (σ:=Nat × MachS × Bool × Bool) (fun s=>[(5,.bool s.2.2.1),(6,.bool s.2.2.2),(19,.int .i64 s.1)]) (fun s=>[.box [.sl nodeV s.2.1.g,.sl fileV s.2.1.f,.own 2,.own 3,.sl byteV s.2.1.sunk],.box [.nil,.nil,.nil,.nil,.nil],.row 4 (s.2.1.pipes.map pipeV),.row 5 (procEls Q s.2.1.p),.pack Q (subsOf s.2.1.p)]) (fun s=>s.1 ≤ M.p.length ∧ rndGo ((List.range M.p.length).drop s.1) s.2 = rnd M ∧ I s.2.1 ∧ s.2.1.p.length = M.p.length) (fun s=>M.p.length - s.1) (0,M,true,false) ?_
    conv=>whnf
    refine ⟨(by (refine wk_sel [some 0,some 1,some 2,some 3,some 4] rfl rfl ?_ ?_ <;> (repeat' (first | exact True.intro | exact rfl | exact Or.inl rfl | exact Or.inr rfl | refine And.intro ?_ ?_ | fail)))),⟨Nat.zero_le _,rfl,hIM,rfl⟩,fun s hs=>?_⟩
    obtain ⟨k,N,ov,wt⟩:=s
    obtain ⟨hk,hgo,hIN,hNl⟩:=hs
    dsimp only at hk hgo hIN hNl
    repeat' first | (refine fun (b : Bool) hb=>?_; cases b <;> (first | exact absurd hb (by decide) | exact Bool.noConfusion (show true = false from hb) | exact Bool.noConfusion (show false = true from hb) | skip)) | fail
    · have hkl : k = M.p.length := by
        have h:=of_decide_eq_false (by assumption : decide ((k : Int) < ((procEls Q M.p).length : Int)) = false)
        rw [procEls_len] at h
        omega
      subst hkl
      rw [List.drop_eq_nil_of_le (by rw [List.length_range]; exact Nat.le_refl _)] at hgo
      refine ⟨(N,ov,wt),(by (refine wk_sel [some 0,some 1,some 2,some 3,some 4] rfl rfl ?_ ?_ <;> (repeat' (first | exact True.intro | exact rfl | exact Or.inl rfl | exact Or.inr rfl | refine And.intro ?_ ?_ | fail)))),⟨hgo,hIN⟩⟩
    have hk2 : k < M.p.length:=by
      have h:=of_decide_eq_true (by assumption : decide ((k : Int) < ((procEls Q M.p).length : Int)) = true)
      rw [procEls_len] at h
      omega
    have hkN : k < N.p.length:=by omega
    obtain ⟨hFo,hZo,hIo⟩:=hS N hIN k hkN
    have hdr : (List.range M.p.length).drop k = k :: (List.range M.p.length).drop (k + 1):=by
      rw [List.drop_eq_getElem_cons (by rw [List.length_range]; exact hk2),List.getElem_range]
    rw [hdr,rndGo] at hgo
    dsimp only at hgo
    have hNl2:=stepM_len N k hkN
    have hpat : (procEls Q (stepM N k).1.p)[k]? = some (procEl Q k (pr (stepM N k).1 k)):=procEls_at (by rw [pr_at (by omega)]; exact List.getElem?_eq_getElem _)
    conv=>whnf
    refine join_live [1,2,5,7,18,19] (σ:=Unit) (fun _=>[(6,.bool (decide ((stepM N k).2 = 0) || wt)),(7,.int .i64 k)]) (fun _=>[.box [.sl nodeV (stepM N k).1.g,.sl fileV (stepM N k).1.f,.own 2,.own 3,.sl byteV (stepM N k).1.sunk],.box [.nil,.nil,.nil,.nil,.nil],.row 4 ((stepM N k).1.pipes.map pipeV),.row 5 (procEls Q (stepM N k).1.p),.pack Q (subsOf (stepM N k).1.p)]) (fun _=>True) ?_
    conv=>whnf
    refine ⟨?_,fun _ _=>?_⟩
    · conv=>whnf
      skip
      refine ⟨N,k,0,2,3,4,Q,rfl,rfl,rfl,rfl,rfl,hFo,hZo,?_⟩
      conv=>whnf
      repeat' first | (refine fun (b : Bool) hb=>?_; cases b <;> (first | exact absurd hb (by decide) | exact Bool.noConfusion (show true = false from hb) | exact Bool.noConfusion (show false = true from hb) | skip)) | fail
      · have hb0 : decide ((stepM N k).2 = 0) = false:=by assumption
        conv=>whnf
        skip
        rw [hb0]
        exact ⟨(),(by (refine wk_sel [some 0,some 1,some 2,some 3,some 4] rfl rfl ?_ ?_ <;> (repeat' (first | exact True.intro | exact rfl | exact Or.inl rfl | exact Or.inr rfl | refine And.intro ?_ ?_ | fail)))),trivial⟩
      · have hb0 : decide ((stepM N k).2 = 0) = true:=by assumption
        conv=>whnf
        skip
        rw [hb0]
        exact ⟨(),(by (refine wk_sel [some 0,some 1,some 2,some 3,some 4] rfl rfl ?_ ?_ <;> (repeat' (first | exact True.intro | exact rfl | exact Or.inl rfl | exact Or.inr rfl | refine And.intro ?_ ?_ | fail)))),trivial⟩
    have hI64 : I64 ((k : Int) + 1):=by
      have hM : (procEls Q M.p).length ≤ MAXL:=by assumption
      rw [procEls_len] at hM
      unfold MAXL at hM; unfold I64; omega
    conv=>whnf
    repeat' first | (refine fun (b : Bool) hb=>?_; cases b <;> (first | exact absurd hb (by decide) | exact Bool.noConfusion (show true = false from hb) | exact Bool.noConfusion (show false = true from hb) | skip)) | refine And.intro (a:=I64 _) ?_ ?_ | refine ⟨rfl,?_⟩ | fail
    · exact hI64
    · have ho : ov = false:=by assumption
      subst ho
      refine ⟨(k + 1,(stepM N k).1,false,decide ((stepM N k).2 = 0) || wt),(by (refine wk_sel [some 0,some 1,some 2,some 3,some 4] rfl rfl ?_ ?_ <;> (repeat' (first | exact True.intro | exact rfl | exact Or.inl rfl | exact Or.inr rfl | refine And.intro ?_ ?_ | fail)))),⟨hk2,hgo,hIo,by show (stepM N k).1.p.length = _; omega⟩,by show M.p.length - (k + 1) < M.p.length - k; omega⟩
    · have ho : ov = true:=by assumption
      subst ho
      refine ⟨k,rfl,by rw [procEls_len]; omega,?_⟩
      conv=>whnf
      refine ⟨_,hpat,?_⟩
      conv=>whnf
      repeat' first | refine And.intro (a:=I64 _) ?_ ?_ | fail
      · exact hI64
      refine ⟨(k + 1,(stepM N k).1,(pr (stepM N k).1 k).over,decide ((stepM N k).2 = 0) || wt),(by (refine wk_sel [some 0,some 1,some 2,some 3,some 4] rfl rfl ?_ ?_ <;> (repeat' (first | exact True.intro | exact rfl | exact Or.inl rfl | exact Or.inr rfl | refine And.intro ?_ ?_ | fail)))),⟨hk2,hgo,hIo,by show (stepM N k).1.p.length = _; omega⟩,by show M.p.length - (k + 1) < M.p.length - k; omega⟩
  obtain ⟨N,ov,wt⟩:=s
  obtain ⟨hs',hIN⟩:=hs
  dsimp only at hIN
  conv=>whnf
  refine join_live [1,2,6] (σ:=Bool) (fun s=>[(38,.bool ov)]) (fun s=>match s with | true=>[.box [.sl nodeV N.g,.sl fileV N.f,.own 2,.own 3,.sl byteV N.sunk],.box [.nil,.nil,.nil,.nil,.nil],.row 4 (N.pipes.map pipeV),.row 5 (N.p.map procV),.dead] | false=>[.box [.sl nodeV N.g,.sl fileV N.f,.own 2,.own 3,.sl byteV N.sunk],.box [.nil,.nil,.nil,.nil,.nil],.row 4 (N.pipes.map pipeV),.row 5 (procEls Q N.p),.pack Q (subsOf N.p)]) (fun s=>s = ov) ?_
  conv=>whnf
  refine ⟨?_,fun s hs=>?_⟩
  · conv=>whnf
    skip
    cases ov
    · exact ⟨false,(by (refine wk_sel [some 0,some 1,some 2,some 3,some 4] rfl rfl ?_ ?_ <;> (repeat' (first | exact True.intro | exact rfl | exact Or.inl rfl | exact Or.inr rfl | refine And.intro ?_ ?_ | fail)))),rfl⟩
    · exact ⟨true,(wk_pack 3 4 rfl rfl).trans (by (refine wk_sel [some 0,some 1,some 2,some 3,some 4] rfl rfl ?_ ?_ <;> (repeat' (first | exact True.intro | exact rfl | exact Or.inl rfl | exact Or.inr rfl | refine And.intro ?_ ?_ | fail)))),rfl⟩
  subst hs
  have e1 : (rnd M).1 = N:=by rw [← hs']
  have e2 : (rnd M).2.1 = s:=by rw [← hs']
  have e3 : (rnd M).2.2 = wt:=by rw [← hs']
  cases s
  · conv=>whnf
    repeat' first | (refine fun (b : Bool) hb=>?_; cases b <;> (first | exact absurd hb (by decide) | exact Bool.noConfusion (show true = false from hb) | exact Bool.noConfusion (show false = true from hb) | skip)) | fail
    · have hw : wt = true := by
        have h : (!wt) = false:=by assumption
        simpa using h
      subst hw
      cases hF with
      | over h=>rw [e2] at h; cases h
      | stuck h h2=>rw [e3] at h2; cases h2
      | @more _ n' _ h h2 h3 =>
        rw [e1] at h3
        conv=>whnf
        refine ⟨(n',N),(by (refine wk_sel [some 0,some 1,some 2,some 3,some 4] rfl rfl ?_ ?_ <;> (repeat' (first | exact True.intro | exact rfl | exact Or.inl rfl | exact Or.inr rfl | refine And.intro ?_ ?_ | fail)))),⟨h3,hIN⟩,by show n' < n' + 1; omega⟩
    · have hw : wt = false := by
        have h : (!wt) = true:=by assumption
        simpa using h
      subst hw
      cases hF with
      | over h=>rw [e2] at h; cases h
      | more h h2 h3=>rw [e3] at h2; cases h2
      | stuck h h2 =>
        conv=>whnf
        skip
        refine ⟨Gp.Node,nodeV,?_⟩
        refine ⟨FileS,fileV,?_⟩
        refine ⟨PipeS,pipeV,?_⟩
        refine ⟨ProcS,procV,?_⟩
        refine ⟨UInt8,byteV,?_⟩
        exact hK _ rfl
  · conv=>whnf
    repeat' first | refine ⟨_,_,_,LeL.refl _,?_⟩ | (refine fun (b : Bool) hb=>?_; cases b <;> (first | exact absurd hb (by decide) | exact Bool.noConfusion (show true = false from hb) | exact Bool.noConfusion (show false = true from hb) | skip)) | fail
    cases hF with
    | stuck h h2=>rw [e2] at h; cases h
    | more h h2 h3=>rw [e2] at h; cases h
    | over h =>
      conv=>whnf
      refine hK _ ?_
      rw [e1]
      rfl
end Gv
namespace Gv
variable [Glob] [Laid] [Nums] [Errs]
theorem mill_ok : Ok [fileA] sorterNodes 1 (freshM sorterNodes [fileA] 1) ∧ (∀ m,Ok [fileA] sorterNodes 1 m → checkMach m = 0 ∧ m.sunk <+: (evalG sorterNodes [fileA]).1 ∧ (∃ n M,FinN n m (M,0) ∧ Ok [fileA] sorterNodes 1 M ∧ (∀ i,i < sorterNodes.length → (pr M i).over = true) ∧ M.sunk = (evalG sorterNodes [fileA]).1) ∧ ((∃ i,i < sorterNodes.length ∧ (pr m i).over = false) → ∃ i,i < sorterNodes.length ∧ (stepM m i).2 = 0)) ∧ (evalG sorterNodes [fileA]).2 = 0 :=
  exec_law flow1 (by decide +kernel) flow3 ⟨by decide,by decide⟩
theorem ok_steps {g : List Gp.Node} {f : List FileS} {rm : Int} (hg : checkG g = 0) (h : ∀ m,Ok f g rm m → checkMach m = 0) : Steps (Ok f g rm):=fun m hm i hi=>by
  have R:=right_of (h m hm)
  obtain ⟨h1,h2⟩:=right_foc R hi
  refine ⟨h1,h2,ok_step hm (gf_of hg) ?_⟩
  have:=hm.sh.np
  omega
theorem mill_stuck : (stepM (freshM sorterNodes [fileA] 1) 5).2 = 8:=by decide +kernel
theorem milledX_ca : callable Tryz.prog 13 = true:=by kernel_rfl
def milledX_S : Spec:=fun args K=>args = [] ∧ K (.bool true)
noncomputable def milledX_lib : List (Nat × Spec):=[(56,sorter_S),(19,newX_S),(12,stepX_S),(22,finX_S)]
noncomputable def milledX_fns : List (Nat × FnI):=[]
noncomputable def milledX_prims : List (Nat × PSpec):=[]
theorem milledX_E : EnvOK ⟨Tryz.prog,tys,milledX_lib,milledX_fns,milledX_prims,[]⟩:=env_ok mixed0 tys0 (.cons sorter_ca sorter_ok (.cons newX_ca newX_ok (.cons stepX_ca stepX_ok (.cons finX_ca finX_ok .nil)))) .nil .nil rfl
set_option maxHeartbeats 8000000 in
set_option maxRecDepth 10000 in
theorem milledX_ok : Pure Tryz.prog 13 milledX_S:=by
  refine pure_by milledX_E 6 (fi:={fn:=Tryz.f13,hooks:=[],draws:=[]}) ⟨Tryz.func13,by kernel_rfl,by kernel_rfl⟩ ?_
  rintro _ K ⟨rfl,hK⟩
  replace hK : ∀ r,r = .bool true → K r:=fun r h=>h ▸ hK
  obtain ⟨h1,h2,h3⟩:=mill_ok
  obtain ⟨c1,-,⟨n,M,c2,c3,c4,c5⟩,-⟩:=h2 _ h1
  rw [flow6] at c5
  have hnew : newP sorterNodes [fileA] 1 = (freshM sorterNodes [fileA] 1,0):=by
    unfold newP
    rw [flow1,flow3,if_neg (by simp),if_neg (by simp),if_neg (by decide)]
  have hstep : stepP (freshM sorterNodes [fileA] 1) 5 = (zM,8):=by
    unfold stepP
    rw [c1,if_neg (by simp),if_neg (by decide +kernel),show (5 : Int).toNat = 5 from rfl,mill_stuck,if_pos (by decide)]
  have c5 : M.sunk = [48,10,49,10,50,10,51,10]:=c5
  repeat' first | refine ⟨rfl,?_⟩ | fail
  conv=>whnf
  skip
  refine ⟨[51,10,49,10,50,10,48],rfl,by decide,?_⟩
  skip
  refine ⟨FileS,fileV,[fileA],LeL.refl _,?_⟩
  refine ⟨sorterNodes,[fileA],1,rfl,?_⟩
  rw [hnew]
  skip
  conv=>whnf
  skip
  refine ⟨freshM sorterNodes [fileA] 1,5,rfl,?_⟩
  rw [hstep]
  skip
  conv=>whnf
  skip
  refine ⟨freshM sorterNodes [fileA] 1,n,(M,0),Ok [fileA] sorterNodes 1,rfl,⟨fun _=>⟨right_copy (right_of c1),h1,ok_steps flow1 fun m hm=>(h2 m hm).1,c2⟩,fun h=>absurd c1 h⟩,?_⟩
  repeat' first | (refine fun (b : Bool) hb=>?_; cases b <;> (first | exact absurd hb (by decide) | exact Bool.noConfusion (show true = false from hb) | exact Bool.noConfusion (show false = true from hb) | skip)) | refine ⟨_,(fun _=>rfl),rfl,?_⟩ | fail
  all_goals (try (conv=>whnf))
  all_goals (skip)
  refine hK _ ?_
  show V.bool (decide (M.sunk = [48,10,49,10,50,10,51,10])) = _
  rw [c5]
  rfl
end Gv
namespace Gv
variable [Glob] [Laid]
theorem cline_ca : callable Tryz.prog 68 = true:=by kernel_rfl
def cline_S : Spec:=fun args K=>∃ (f : List Bs) (c : List Cmd) (t : Bs),args = [.agg [.sl strV f,.sl cmdV c,.str t]] ∧ K (.int .i64 (checkLine ⟨f,c,t⟩))
noncomputable def cline_lib : List (Nat × Spec):=[(132,ccheck_S),(78,word_S)]
noncomputable def cline_fns : List (Nat × FnI):=[(131,{fn:=Tryz.f131,hooks:=[],draws:=[]})]
noncomputable def cline_prims : List (Nat × PSpec):=[]
theorem cline_E : EnvOK ⟨Tryz.prog,tys,cline_lib,cline_fns,cline_prims,[]⟩:=env_ok mixed0 tys0 (.cons ccheck_ca ccheck_ok (.cons word_ca word_ok .nil)) (.cons (by kernel_rfl) ⟨Tryz.func131,by kernel_rfl,by kernel_rfl⟩ .nil) .nil rfl
set_option maxHeartbeats 4000000 in
theorem cline_ok : Pure Tryz.prog 68 cline_S:=by
  refine pure_by cline_E 6 (fi:={fn:=Tryz.f68,hooks:=[3],draws:=[(3,[0,1,3,0,8,24,63,127,0])]}) ⟨Tryz.func68,by kernel_rfl,by kernel_rfl⟩ ?_
  rintro _ K ⟨f,c,t,rfl,hK⟩
  replace hK : ∀ r,r = .int .i64 (checkLine ⟨f,c,t⟩) → K r:=fun r h=>h ▸ hK
  unfold checkLine at hK
  dsimp only at hK
  conv=>whnf
  refine join_live [1] (σ:=Unit) (fun b=>[]) (fun _=>[.box [.sl strV f,.sl cmdV c,.str t]]) (fun b=>¬ (f.length = 0 ∨ 4 < f.length ∨ 6 < c.length)) ?_
  conv=>whnf
  refine ⟨?_,fun _ h1=>?_⟩
  · repeat' first | (refine fun (b : Bool) hb=>?_; cases b <;> (first | exact absurd hb (by decide) | exact Bool.noConfusion (show true = false from hb) | exact Bool.noConfusion (show false = true from hb) | skip)) | (refine fun (hl : _ ≤ MAXL)=>?_) | fail
    all_goals (conv=>whnf)
    all_goals first
      | (refine ⟨(),(by (refine wk_sel [some 0] rfl rfl ?_ ?_ <;> (repeat' (first | exact True.intro | exact rfl | exact Or.inl rfl | exact Or.inr rfl | refine And.intro ?_ ?_ | fail)))),?_⟩; simp_all; omega)
      | (refine hK _ ?_; rw [if_pos]; simp_all; omega)
      | (refine hK _ ?_; rw [if_pos]; simp_all; done)
  rw [if_neg h1] at hK
  repeat' first | exact True.intro | refine ⟨_,⟨rfl,rfl⟩,?_⟩ | refine And.intro (a:=chkPast _ _ _ _ _ _ _ _) ?_ ?_ | fail
  conv=>whnf
  apply Exists.intro
  apply Exists.intro
  apply And.intro
  · repeat' first | (refine fun (b : Bool) hb=>?_; cases b <;> (first | exact absurd hb (by decide) | exact Bool.noConfusion (show true = false from hb) | exact Bool.noConfusion (show false = true from hb) | skip)) | refine And.intro (a:=_ ≤ 140737488355328) ?_ ?_ | refine ⟨(fun _=>rfl),?_⟩ | refine ⟨rfl,?_⟩ | fail
    · simp only [List.length_nil,List.length_map]
      omega
    · exact rfl
    · exfalso
      have h : true = true → f = []:=by assumption
      simp [h rfl] at h1
  repeat' first | exact True.intro | refine ⟨_,⟨rfl,rfl⟩,?_⟩ | refine And.intro (a:=chkPend _ _ _ _ _ _) ?_ ?_ | refine And.intro (a:=chkPast _ _ _ _ _ _ _ _) ?_ ?_ | refine ⟨⟨rfl,rfl⟩,?_⟩ | fail
  refine ⟨_,⟨Bs,strV,[t],LeL.refl _,rfl,rfl⟩,?_⟩
  refine ⟨_,_,⟨fun _=>rfl,?_,rfl,rfl⟩,?_⟩
  · simp only [List.length_nil,List.length_map,List.length_append,List.nil_append,elsOf,List.length_cons]
    omega
  have hels : [] ++ f.map strV ++ [t].map strV = (f ++ [t]).map strV:=by simp
  repeat' first | exact True.intro | refine ⟨_,⟨rfl,rfl⟩,?_⟩ | refine ⟨_,(fun _=>⟨rfl,rfl⟩),?_⟩ | refine And.intro (a:=chkPend _ _ _ _ _ _) ?_ ?_ | refine And.intro (a:=chkPast _ _ _ _ _ _ _ _) ?_ ?_ | fail
  rw [hels]
  generalize hg : f ++ [t] = g at hK hels ⊢
  have hgl : g.length ≤ 5:=by
    rw [← hg]
    simp only [List.length_append,List.length_cons,List.length_nil]
    omega
  conv=>whnf
  refine loop_live [1,30,31] (σ:=Nat) (fun i=>[(32,.int .i64 i)]) (fun _=>[.box [.sl strV f,.sl cmdV c,.str t],.dead,.dead,.row 1 (g.map strV)]) (fun i=>i ≤ g.length ∧ (g.take i).all isWord = true) (fun i=>g.length - i) 0 ?_
  conv=>whnf
  refine ⟨(by (refine wk_sel [some 0,some 1,some 2,some 3] rfl rfl ?_ ?_ <;> (repeat' (first | exact True.intro | exact rfl | exact Or.inl rfl | exact Or.inr rfl | refine And.intro ?_ ?_ | fail)))),⟨Nat.zero_le _,rfl⟩,fun i hi=>?_⟩
  obtain ⟨hi,hI⟩:=hi
  repeat' first | (refine fun (b : Bool) hb=>?_; cases b <;> (first | exact absurd hb (by decide) | exact Bool.noConfusion (show true = false from hb) | exact Bool.noConfusion (show false = true from hb) | skip)) | (refine fun (hl : _ ≤ MAXL)=>?_) | refine ⟨rfl,?_⟩ | fail
  · have e : g.take i = g:=List.take_of_length_le (by grind)
    rw [e] at hI
    simp only [hI] at hK
    conv=>whnf
    refine loop_live [41,42] (σ:=Nat) (fun i=>[(43,.int .i64 i)]) (fun _=>[.box [.sl strV f,.sl cmdV c,.str t],.dead,.dead,.row 1 (g.map strV)]) (fun i=>i ≤ c.length ∧ firstBad (c.drop i) = firstBad c) (fun i=>c.length - i) 0 ?_
    conv=>whnf
    refine ⟨(by (refine wk_sel [some 0,some 1,some 2,some 3] rfl rfl ?_ ?_ <;> (repeat' (first | exact True.intro | exact rfl | exact Or.inl rfl | exact Or.inr rfl | refine And.intro ?_ ?_ | fail)))),⟨Nat.zero_le _,rfl⟩,fun i hi=>?_⟩
    obtain ⟨hi,hJ⟩:=hi
    repeat' first | (refine fun (b : Bool) hb=>?_; cases b <;> (first | exact absurd hb (by decide) | exact Bool.noConfusion (show true = false from hb) | exact Bool.noConfusion (show false = true from hb) | skip)) | refine ⟨_,rfl,?_,rfl,?_⟩ | fail
    · refine hK _ ?_
      have e : c.drop i = []:=List.drop_eq_nil_of_le (by grind)
      rw [e] at hJ
      rw [← hJ]
      rfl
    · grind
    · have hi2 : i < c.length:=by grind
      have hd : c.drop i = c[i] :: c.drop (i + 1):=List.drop_eq_getElem_cons hi2
      rw [hd] at hJ
      refine ⟨c[i].kind,c[i].word,c[i].n,rfl,?_⟩
      have hb0 : firstBad (c[i] :: c.drop (i + 1)) = if checkCmd c[i] = 0 then firstBad (c.drop (i + 1)) else checkCmd c[i]:=rfl
      have hcc : checkCmd ⟨c[i].kind,c[i].word,c[i].n⟩ = checkCmd c[i]:=rfl
      rw [hcc]
      generalize checkCmd c[i] = e at hb0 ⊢
      repeat' first | (refine fun (b : Bool) hb=>?_; cases b <;> (first | exact absurd hb (by decide) | exact Bool.noConfusion (show true = false from hb) | exact Bool.noConfusion (show false = true from hb) | skip)) | refine And.intro (a:=I64 _) ?_ ?_ | fail
      · (first | omega | (unfold I64; omega) | (simp only [List.length_append,List.length_map,List.length_cons,List.length_nil,Nat.mul_one,Int.ofNat_eq_natCast] at *; omega) | (dsimp only at *; omega) | (unfold I64; dsimp only at *; omega) | (unfold I64; grind) | grind)
      · refine ⟨i + 1,(by (refine wk_sel [some 0,some 1,some 2,some 3] rfl rfl ?_ ?_ <;> (repeat' (first | exact True.intro | exact rfl | exact Or.inl rfl | exact Or.inr rfl | refine And.intro ?_ ?_ | fail)))),⟨by omega,?_⟩,by omega⟩
        rw [← hJ,hb0,if_pos (by grind)]
      · refine hK _ ?_
        have he : ¬ e = 0:=by grind
        rw [← hJ,hb0]
        simp [he]
  have hi2 : i < g.length:=by grind
  refine ⟨i,rfl,by simpa using hi2,?_⟩
  refine ⟨strV g[i],by simp [hi2],?_⟩
  refine ⟨g[i],rfl,?_⟩
  have hts : g.take (i + 1) = g.take i ++ [g[i]]:=List.take_succ_eq_append_getElem hi2
  repeat' first | (refine fun (b : Bool) hb=>?_; cases b <;> (first | exact absurd hb (by decide) | exact Bool.noConfusion (show true = false from hb) | exact Bool.noConfusion (show false = true from hb) | skip)) | refine And.intro (a:=I64 _) ?_ ?_ | fail
  · (first | omega | (unfold I64; omega) | (simp only [List.length_append,List.length_map,List.length_cons,List.length_nil,Nat.mul_one,Int.ofNat_eq_natCast] at *; omega) | (dsimp only at *; omega) | (unfold I64; dsimp only at *; omega) | (unfold I64; grind) | grind)
  · refine ⟨i + 1,(by (refine wk_sel [some 0,some 1,some 2,some 3] rfl rfl ?_ ?_ <;> (repeat' (first | exact True.intro | exact rfl | exact Or.inl rfl | exact Or.inr rfl | refine And.intro ?_ ?_ | fail)))),⟨by omega,?_⟩,by omega⟩
    rw [hts,List.all_append,hI]
    grind
  · refine hK _ ?_
    have h1 : g.all isWord = false:=by
      rw [List.all_eq_false]
      exact ⟨g[i],List.getElem_mem hi2,by grind⟩
    rw [if_pos h1]
end Gv
namespace Gv
variable [Glob] [Laid]
def joinFor (c : Cmd) : Int × Int:=if checkCmd c = 0 then (howFor c,0) else (0,checkCmd c)
theorem for_ca : callable Tryz.prog 74 = true:=by kernel_rfl
def for_S : Spec:=fun args K=>∃ (k : Int) (s : Bs) (n : Int),args = [.agg [.int .i64 k,.str s,.int .i64 n]] ∧ K (.tup [.int .i64 (joinFor ⟨k,s,n⟩).1,.int .i64 (joinFor ⟨k,s,n⟩).2])
noncomputable def for_lib : List (Nat × Spec):=[(132,ccheck_S)]
noncomputable def for_fns : List (Nat × FnI):=[]
noncomputable def for_prims : List (Nat × PSpec):=[]
theorem for_E : EnvOK ⟨Tryz.prog,tys,for_lib,for_fns,for_prims,[]⟩:=env_ok mixed0 tys0 (.cons ccheck_ca ccheck_ok .nil) .nil .nil rfl
set_option maxHeartbeats 4000000 in
theorem for_ok : Pure Tryz.prog 74 for_S:=by
  refine pure_by for_E 6 (fi:={fn:=Tryz.f74,hooks:=[],draws:=[]}) ⟨Tryz.func74,by kernel_rfl,by kernel_rfl⟩ ?_
  rintro _ K ⟨k,s,n,rfl,hK⟩
  replace hK : ∀ r,r = .tup [.int .i64 (joinFor ⟨k,s,n⟩).1,.int .i64 (joinFor ⟨k,s,n⟩).2] → K r:=fun r h=>h ▸ hK
  refine ⟨k,s,n,rfl,?_⟩
  unfold joinFor howFor at hK
  generalize checkCmd ⟨k,s,n⟩ = c at hK ⊢
  repeat' first | (refine fun (b : Bool) hb=>?_; cases b <;> (first | exact absurd hb (by decide) | exact Bool.noConfusion (show true = false from hb) | exact Bool.noConfusion (show false = true from hb) | skip)) | fail
  all_goals (refine hK _ ?_; grind)
end Gv
namespace Gv
variable [Glob] [Laid]
theorem plan_ca : callable Tryz.prog 24 = true:=by kernel_rfl
def plan_S : Spec:=fun args K=>∃ (f : List Bs) (c : List Cmd) (t : Bs) (w : Int),args = [.agg [.sl strV f,.sl cmdV c,.str t],.int .i64 w] ∧ K (.tup [.agg [.sl nodeV (plan ⟨f,c,t⟩ w).1],.int .i64 (plan ⟨f,c,t⟩ w).2])
noncomputable def plan_lib : List (Nat × Spec):=[(68,cline_S),(73,each_S),(74,for_S)]
noncomputable def plan_fns : List (Nat × FnI):=[(69,{fn:=Tryz.f69,hooks:=[],draws:=[(1,[0,0,2,6,14,30,0,64,254,511,1023,2047,4095])],frz:=true}),(70,{fn:=Tryz.f70,hooks:=[],draws:=[]}),(71,{fn:=Tryz.f71,hooks:=[],draws:=[(6,[0,0,2,6,14,0,32,0,224,480,1022,2047,4095,8191])]}),(72,{fn:=Tryz.f72,hooks:=[],draws:=[]})]
noncomputable def plan_prims : List (Nat × PSpec):=[]
theorem plan_E : EnvOK ⟨Tryz.prog,tys,plan_lib,plan_fns,plan_prims,[]⟩:=env_ok mixed0 tys0 (.cons cline_ca cline_ok (.cons each_ca each_ok (.cons for_ca for_ok .nil))) (.cons (by kernel_rfl) ⟨Tryz.func69,by kernel_rfl,by kernel_rfl⟩ (.cons (by kernel_rfl) ⟨Tryz.func70,by kernel_rfl,by kernel_rfl⟩ (.cons (by kernel_rfl) ⟨Tryz.func71,by kernel_rfl,by kernel_rfl⟩ (.cons (by kernel_rfl) ⟨Tryz.func72,by kernel_rfl,by kernel_rfl⟩ .nil)))) .nil rfl
set_option maxHeartbeats 4000000 in
theorem plan_ok : Pure Tryz.prog 24 plan_S:=by
  refine pure_by plan_E 6 (fi:={fn:=Tryz.f24,hooks:=[13,17,26],draws:=[(10,[0,0,2,6,14,0,0,64,224,480,1022,2047,4095,8191]),(26,[0,0,2,0,8,24,56,126,255])]}) ⟨Tryz.func24,by kernel_rfl,by kernel_rfl⟩ ?_
  rintro _ K ⟨f,c,t,w,rfl,hK⟩
  replace hK : ∀ r,r = .tup [.agg [.sl nodeV (plan ⟨f,c,t⟩ w).1],.int .i64 (plan ⟨f,c,t⟩ w).2] → K r:=fun r h=>h ▸ hK
  refine ⟨f,c,t,rfl,?_⟩
  by_cases hc : checkLine ⟨f,c,t⟩ = 0
  rotate_left
  · have e1 : plan ⟨f,c,t⟩ w = ([],checkLine ⟨f,c,t⟩):=by unfold plan; rw [if_pos hc]
    rw [e1] at hK
    generalize checkLine ⟨f,c,t⟩ = e at hc hK ⊢
    repeat' first | (refine fun (b : Bool) hb=>?_; cases b <;> (first | exact absurd hb (by decide) | exact Bool.noConfusion (show true = false from hb) | exact Bool.noConfusion (show false = true from hb) | skip)) | (refine fun (hl : _ ≤ MAXL)=>?_) | refine ⟨Gp.Node,nodeV,?_⟩ | fail
    · exfalso
      grind
    · exfalso
      grind
    · exfalso
      grind
    · exact hK _ rfl
  rw [hc]
  by_cases hw : w < 1 ∨ 5 < w
  · have e1 : plan ⟨f,c,t⟩ w = ([],3):=by unfold plan; rw [if_neg (by simp [hc]),if_pos hw]
    rw [e1] at hK
    repeat' first | (refine fun (b : Bool) hb=>?_; cases b <;> (first | exact absurd hb (by decide) | exact Bool.noConfusion (show true = false from hb) | exact Bool.noConfusion (show false = true from hb) | skip)) | (refine fun (hl : _ ≤ MAXL)=>?_) | refine ⟨Gp.Node,nodeV,?_⟩ | fail
    · exfalso
      grind
    · exact hK _ rfl
    · exact hK _ rfl
  have e1 : plan ⟨f,c,t⟩ w = (planNodes ⟨f,c,t⟩ w,0):=by unfold plan; rw [if_neg (by simp [hc]),if_neg hw]
  rw [e1] at hK
  repeat' first | (refine fun (b : Bool) hb=>?_; cases b <;> (first | exact absurd hb (by decide) | exact Bool.noConfusion (show true = false from hb) | exact Bool.noConfusion (show false = true from hb) | skip)) | (refine fun (hl : _ ≤ MAXL)=>?_) | refine ⟨Gp.Node,nodeV,?_⟩ | fail
  rotate_left
  · exfalso
    grind
  · exfalso
    grind
  have hfl : f.length ≤ 4 ∧ 1 ≤ f.length ∧ c.length ≤ 6:=by
    unfold checkLine at hc
    split at hc
    · cases hc
    · rename_i h
      dsimp only at h
      omega
  have hfb : firstBad c = 0:=by
    unfold checkLine at hc
    split at hc
    · cases hc
    · split at hc
      · cases hc
      · exact hc
  have hpl:=fun i hi=>steps_ok (l:=⟨f,c,t⟩) (wide:=w) ⟨hfl.2.1,hfl.1⟩ (by omega) i hi
  have hsr:=fun i=>srcs_len (f.take i)
  conv=>whnf
  refine loop_live [1,2,4,7,29,30] (σ:=Nat) (fun i=>[(31,.int .i64 i)]) (fun i=>[.box [.sl strV f,.sl cmdV c,.str t],.box [.nil],.box [.own 3,.own 4],.row 8 ((srcs (f.take i)).nodes.map nodeV),.row 2 ((srcs (f.take i)).cur.map portV)]) (fun i=>i ≤ f.length) (fun i=>f.length - i) 0 ?_
  conv=>whnf
  refine ⟨(by (refine wk_sel [some 0,some 1,some 2,none,none] rfl rfl ?_ ?_ <;> (repeat' (first | exact True.intro | exact rfl | exact Or.inl rfl | exact Or.inr rfl | refine And.intro ?_ ?_ | fail)))),Nat.zero_le _,fun i hi=>?_⟩
  have hsi:=hsr i
  have hst : ∀ h : i < f.length,srcs (f.take (i + 1)) = (srcs (f.take i)).src f[i]:=fun h=>srcs_take h
  have hli : (f.take i).length ≤ 4:=by simp; omega
  obtain ⟨d,hdq⟩ : ∃ d,srcs (f.take i) = d:=⟨_,rfl⟩
  rw [hdq] at hsi hst ⊢
  obtain ⟨hs1,hs2,-⟩:=hsi
  repeat' first | exact True.intro | (refine fun (b : Bool) hb=>?_; cases b <;> (first | exact absurd hb (by decide) | exact Bool.noConfusion (show true = false from hb) | exact Bool.noConfusion (show false = true from hb) | skip)) | refine ⟨_,⟨rfl,rfl⟩,?_⟩ | refine And.intro (a:=chkPast _ _ _ _ _ _ _ _) ?_ ?_ | refine ⟨_,rfl,?_,rfl,?_⟩ | fail
  rotate_left
  · grind
  · have hi2 : i < f.length:=by grind
    apply Exists.intro
    apply Exists.intro
    apply And.intro
    · repeat' first | exact True.intro | refine ⟨_,⟨rfl,rfl⟩,?_⟩ | refine And.intro (a:=chkPast _ _ _ _ _ _ _ _) ?_ ?_ | fail
      refine ⟨_,⟨Gp.Port,portV,Gp.Node,nodeV,[srcN f[i]],LeL.refl _,rfl,rfl⟩,?_⟩
      refine ⟨_,_,⟨fun _=>rfl,?_,rfl,rfl⟩,?_⟩
      · simp only [List.length_map,List.length_cons,List.length_nil,elsOf]
        omega
      repeat' first | exact True.intro | (refine fun (hl : _ ≤ MAXL)=>?_) | refine And.intro (a:=I64 _) ?_ ?_ | refine ⟨_,⟨rfl,rfl⟩,?_⟩ | refine ⟨_,_,⟨rfl,rfl⟩,?_⟩ | refine And.intro (a:=chkPend _ _ _ _ _ _) ?_ ?_ | refine ⟨rfl,?_⟩ | fail
      · simp only [List.length_append,List.length_map,List.length_cons,List.length_nil]
        unfold I64
        omega
      · exact rfl
    · repeat' first | exact True.intro | refine And.intro (a:=chkPend _ _ _ _ _ _) ?_ ?_ | refine ⟨⟨rfl,rfl⟩,?_⟩ | fail
      refine ⟨_,⟨Gp.Port,portV,[⟨(((d.nodes.map nodeV ++ [srcN f[i]].map nodeV).length : Nat) : Int) - 1,0⟩],LeL.refl _,rfl,rfl⟩,?_⟩
      refine ⟨_,_,⟨fun _=>rfl,?_,rfl,rfl⟩,?_⟩
      · simp only [List.length_map,List.length_cons,List.length_nil,elsOf]
        omega
      repeat' first | exact True.intro | refine And.intro (a:=I64 _) ?_ ?_ | refine ⟨_,⟨rfl,rfl⟩,?_⟩ | refine ⟨_,_,⟨rfl,rfl⟩,?_⟩ | refine And.intro (a:=chkPend _ _ _ _ _ _) ?_ ?_ | fail
      · (first | omega | (unfold I64; omega) | (simp only [List.length_append,List.length_map,List.length_cons,List.length_nil,Nat.mul_one,Int.ofNat_eq_natCast] at *; omega) | (dsimp only at *; omega) | (unfold I64; dsimp only at *; omega) | (unfold I64; grind) | grind)
      · refine ⟨i + 1,?_,by omega,by omega⟩
        rw [hst hi2]
        refine wk_sel [some 0,some 1,some 2,some 7,some 8] rfl rfl ⟨?_,?_,?_,?_,?_,trivial⟩ ?_
        · (repeat' (first | exact True.intro | exact rfl | exact Or.inl rfl | exact Or.inr rfl | refine And.intro ?_ ?_ | fail))
        · (repeat' (first | exact True.intro | exact rfl | exact Or.inl rfl | exact Or.inr rfl | refine And.intro ?_ ?_ | fail))
        · (repeat' (first | exact True.intro | exact rfl | exact Or.inl rfl | exact Or.inr rfl | refine And.intro ?_ ?_ | fail))
        · show Row.row 8 _ = Row.row 8 _
          simp [Desk.src]
        · show Row.row 2 _ = Row.row 2 _
          simp [Desk.src]
        · (repeat' (first | exact True.intro | exact rfl | exact Or.inl rfl | exact Or.inr rfl | refine And.intro ?_ ?_ | fail))
  have hif : i = f.length:=by grind
  have hd1 : d.cur.length = f.length:=by rw [hs2,hif,List.take_length]
  have hdd : d = srcs f:=by rw [← hdq,hif,List.take_length]
  clear hst
  conv=>whnf
  refine join_live [1,2,4,7] (σ:=Unit) (fun _=>[]) (fun _=>[.box [.sl strV f,.sl cmdV c,.str t],.box [.nil],.box [.own 3,.own 4],.row 8 (d.behind.nodes.map nodeV),.row 2 (d.behind.cur.map portV)]) (fun _=>True) ?_
  conv=>whnf
  refine ⟨?_,fun _ _=>?_⟩
  · repeat' first | exact True.intro | refine ⟨_,_,_,LeL.refl _,?_⟩ | (refine fun (b : Bool) hb=>?_; cases b <;> (first | exact absurd hb (by decide) | exact Bool.noConfusion (show true = false from hb) | exact Bool.noConfusion (show false = true from hb) | skip)) | (refine fun (hl : _ ≤ MAXL)=>?_) | refine ⟨_,⟨rfl,rfl⟩,?_⟩ | refine And.intro (a:=chkPast _ _ _ _ _ _ _ _) ?_ ?_ | fail
    · have e : d.behind = d:=by unfold Desk.behind; rw [if_neg (by simp only [List.length_map] at *; grind)]
      refine ⟨(),?_,trivial⟩
      rw [e]
      exact (by (refine wk_sel [some 0,some 1,some 2,some 3,some 4] rfl rfl ?_ ?_ <;> (repeat' (first | exact True.intro | exact rfl | exact Or.inl rfl | exact Or.inr rfl | refine And.intro ?_ ?_ | fail))))
    have e : d.behind = ⟨d.nodes ++ [joinN 1 zCmd d.cur],[⟨d.nodes.length,0⟩]⟩:=by unfold Desk.behind; rw [if_pos (by simp only [List.length_map] at *; grind)]
    refine ⟨_,⟨Gp.Node,nodeV,[joinN 1 zCmd d.cur],LeL.refl _,rfl,rfl⟩,?_⟩
    refine ⟨_,_,⟨fun _=>rfl,?_,rfl,rfl⟩,?_⟩
    · simp only [List.length_map,List.length_cons,List.length_nil,elsOf]
      omega
    repeat' first | exact True.intro | (refine fun (hl : _ ≤ MAXL)=>?_) | refine And.intro (a:=I64 _) ?_ ?_ | refine ⟨_,⟨rfl,rfl⟩,?_⟩ | refine ⟨_,_,⟨rfl,rfl⟩,?_⟩ | refine And.intro (a:=chkPend _ _ _ _ _ _) ?_ ?_ | fail
    · simp only [List.length_append,List.length_map,List.length_cons,List.length_nil]
      unfold I64
      omega
    rw [e]
    refine ⟨(),?_,trivial⟩
    refine wk_sel [some 0,some 1,some 2,some 7,some 8] rfl rfl ⟨?_,?_,?_,?_,?_,trivial⟩ ?_
    · (repeat' (first | exact True.intro | exact rfl | exact Or.inl rfl | exact Or.inr rfl | refine And.intro ?_ ?_ | fail))
    · (repeat' (first | exact True.intro | exact rfl | exact Or.inl rfl | exact Or.inr rfl | refine And.intro ?_ ?_ | fail))
    · (repeat' (first | exact True.intro | exact rfl | exact Or.inl rfl | exact Or.inr rfl | refine And.intro ?_ ?_ | fail))
    · show Row.row 8 _ = Row.row 8 _
      simp
    · show Row.row 2 _ = Row.row 2 _
      simp [portV]
    · (repeat' (first | exact True.intro | exact rfl | exact Or.inl rfl | exact Or.inr rfl | refine And.intro ?_ ?_ | fail))
  rw [hdd]
  obtain ⟨b,hb⟩ : ∃ b,(srcs f).behind = b:=⟨_,rfl⟩
  have hpd : planDesk ⟨f,c,t⟩ w = (steps w b c).behind:=by unfold planDesk; rw [hb]
  simp only [hb] at hpl
  have hpn : planNodes ⟨f,c,t⟩ w = (steps w b c).behind.nodes ++ [sinkN t (steps w b c).behind.cur]:=by unfold planNodes; rw [hpd]
  rw [hb]
  repeat' first | (refine fun (hl : _ ≤ MAXL)=>?_) | fail
  conv=>whnf
  refine loop_live [1,2,4,7,52,53] (σ:=Nat) (fun i=>[(54,.int .i64 i)]) (fun i=>[.box [.sl strV f,.sl cmdV c,.str t],.box [.nil],.box [.own 3,.own 4],.row 8 ((steps w b (c.take i)).nodes.map nodeV),.row 2 ((steps w b (c.take i)).cur.map portV)]) (fun i=>i ≤ c.length) (fun i=>c.length - i) 0 ?_
  conv=>whnf
  refine ⟨(by (refine wk_sel [some 0,some 1,some 2,some 3,some 4] rfl rfl ?_ ?_ <;> (repeat' (first | exact True.intro | exact rfl | exact Or.inl rfl | exact Or.inr rfl | refine And.intro ?_ ?_ | fail)))),Nat.zero_le _,fun i hi=>?_⟩
  have hpi:=hpl i hi
  obtain ⟨e,heq⟩ : ∃ e,steps w b (c.take i) = e:=⟨_,rfl⟩
  have hst : ∀ h : i < c.length,steps w b (c.take (i + 1)) = e.step w c[i]:=fun h=>by rw [← heq]; exact steps_take h
  rw [heq] at hpi ⊢
  have hwi:=desk_wide hpi (by omega)
  have hpi1:=hpi.len
  have hpi2:=hpi.cur
  repeat' first | (refine fun (b : Bool) hb=>?_; cases b <;> (first | exact absurd hb (by decide) | exact Bool.noConfusion (show true = false from hb) | exact Bool.noConfusion (show false = true from hb) | skip)) | refine ⟨_,rfl,?_,rfl,?_⟩ | fail
  rotate_left
  · grind
  · have hi2 : i < c.length:=by grind
    have hst:=hst hi2
    have hci : checkCmd c[i] = 0:=firstBad_at hfb c[i] (List.getElem_mem hi2)
    have hjf : (joinFor c[i]).1 = howFor c[i]:=by unfold joinFor; rw [if_pos hci]
    refine join_live [1,2,4,7,11,52,53,54] (σ:=Unit) (fun _=>[]) (fun _=>[.box [.sl strV f,.sl cmdV c,.str t],.box [.nil],.box [.own 3,.own 4],.row 8 ((e.wide w).nodes.map nodeV),.row 2 ((e.wide w).cur.map portV),.box [.int .i64 c[i].kind,.str c[i].word,.int .i64 c[i].n]]) (fun _=>True) ?_
    conv=>whnf
    refine ⟨?_,fun _ _=>?_⟩
    · repeat' first | exact True.intro | refine ⟨_,_,_,LeL.refl _,?_⟩ | (refine fun (b : Bool) hb=>?_; cases b <;> (first | exact absurd hb (by decide) | exact Bool.noConfusion (show true = false from hb) | exact Bool.noConfusion (show false = true from hb) | skip)) | (refine fun (hl : _ ≤ MAXL)=>?_) | refine ⟨_,⟨rfl,rfl⟩,?_⟩ | refine And.intro (a:=chkPast _ _ _ _ _ _ _ _) ?_ ?_ | fail
      rotate_left
      · have e1 : e.wide w = e:=by unfold Desk.wide; rw [if_pos (by grind)]
        rw [e1]
        exact ⟨(),(by (refine wk_sel [some 0,some 1,some 2,some 3,some 4,some 5] rfl rfl ?_ ?_ <;> (repeat' (first | exact True.intro | exact rfl | exact Or.inl rfl | exact Or.inr rfl | refine And.intro ?_ ?_ | fail)))),trivial⟩
      · have e1 : e.wide w = e:=by unfold Desk.wide; rw [if_pos (by simp only [List.length_map] at *; grind)]
        rw [e1]
        exact ⟨(),(by (refine wk_sel [some 0,some 1,some 2,some 3,some 4,some 5] rfl rfl ?_ ?_ <;> (repeat' (first | exact True.intro | exact rfl | exact Or.inl rfl | exact Or.inr rfl | refine And.intro ?_ ?_ | fail)))),trivial⟩
      have e1 : e.wide w = ⟨e.nodes ++ [splitN w e.cur],ports e.nodes.length w.toNat⟩:=by unfold Desk.wide; rw [if_neg (by simp only [List.length_map] at *; grind)]
      rw [e1]
      obtain ⟨W,rfl⟩ : ∃ W : Nat,w = W:=⟨w.toNat,by omega⟩
      refine ⟨_,⟨Gp.Node,nodeV,[splitN W e.cur],LeL.refl _,rfl,rfl⟩,?_⟩
      refine ⟨_,_,⟨fun _=>rfl,?_,rfl,rfl⟩,?_⟩
      · simp only [List.length_map,List.length_cons,List.length_nil,elsOf]
        omega
      repeat' first | exact True.intro | (refine fun (hl : _ ≤ MAXL)=>?_) | refine And.intro (a:=I64 _) ?_ ?_ | refine ⟨_,⟨rfl,rfl⟩,?_⟩ | refine ⟨_,_,⟨rfl,rfl⟩,?_⟩ | refine And.intro (a:=chkPend _ _ _ _ _ _) ?_ ?_ | fail
      · simp only [List.length_append,List.length_map,List.length_cons,List.length_nil]
        unfold I64
        omega
      have hp0 : (((e.nodes.map nodeV ++ [splitN W e.cur].map nodeV).length : Nat) : Int) - 1 = e.nodes.length:=by simp
      have hn0 : e.nodes.map nodeV ++ [splitN W e.cur].map nodeV = (e.nodes ++ [splitN W e.cur]).map nodeV:=by simp
      rw [hp0,hn0]
      conv=>whnf
      refine loop_live [0,4,27] (σ:=Nat) (fun k=>[(28,.int .i64 k)]) (fun k=>[.box [.sl strV f,.sl cmdV c,.str t],.box [.nil],.box [.own 8,.own 10],.dead,.dead,.box [.int .i64 c[i].kind,.str c[i].word,.int .i64 c[i].n],.dead,.dead,.row 8 ((e.nodes ++ [splitN W e.cur]).map nodeV),.box [.int .i64 e.nodes.length,.int .i64 0],.row 2 ((ports e.nodes.length k).map portV)]) (fun k=>k ≤ W) (fun k=>W - k) 0 ?_
      conv=>whnf
      refine ⟨?_,Nat.zero_le _,fun k hk=>?_⟩
      · exact (by (refine wk_sel [some 0,some 1,some 2,some 3,some 4,some 5,some 6,some 7,some 8,some 9,none] rfl rfl ?_ ?_ <;> (repeat' (first | exact True.intro | exact rfl | exact Or.inl rfl | exact Or.inr rfl | refine And.intro ?_ ?_ | fail))))
      have hpk:=ports_succ e.nodes.length k
      have hpl3:=ports_len e.nodes.length k
      repeat' first | exact True.intro | (refine fun (b : Bool) hb=>?_; cases b <;> (first | exact absurd hb (by decide) | exact Bool.noConfusion (show true = false from hb) | exact Bool.noConfusion (show false = true from hb) | skip)) | refine ⟨_,⟨rfl,rfl⟩,?_⟩ | refine And.intro (a:=chkPast _ _ _ _ _ _ _ _) ?_ ?_ | fail
      · have hkW : k = W:=by grind
        subst hkW
        refine ⟨(),?_,trivial⟩
        exact (by (refine wk_sel [some 0,some 1,some 2,some 8,some 10,some 5] rfl rfl ?_ ?_ <;> (repeat' (first | exact True.intro | exact rfl | exact Or.inl rfl | exact Or.inr rfl | refine And.intro ?_ ?_ | fail))))
      refine ⟨_,⟨Gp.Port,portV,[⟨e.nodes.length,k⟩],LeL.refl _,rfl,rfl⟩,?_⟩
      refine ⟨_,_,⟨fun _=>rfl,?_,rfl,rfl⟩,?_⟩
      · simp only [List.length_map,List.length_cons,List.length_nil,elsOf]
        omega
      repeat' first | exact True.intro | refine And.intro (a:=I64 _) ?_ ?_ | refine ⟨_,⟨rfl,rfl⟩,?_⟩ | refine ⟨_,_,⟨rfl,rfl⟩,?_⟩ | refine And.intro (a:=chkPend _ _ _ _ _ _) ?_ ?_ | fail
      · (first | omega | (unfold I64; omega) | (simp only [List.length_append,List.length_map,List.length_cons,List.length_nil,Nat.mul_one,Int.ofNat_eq_natCast] at *; omega) | (dsimp only at *; omega) | (unfold I64; dsimp only at *; omega) | (unfold I64; grind) | grind)
      · refine ⟨k + 1,?_,by grind,by grind⟩
        rw [hpk]
        refine wk_sel [some 0,some 1,some 2,some 3,some 4,some 5,some 6,some 7,some 8,some 9,some 11] rfl rfl ⟨?_,?_,?_,?_,?_,?_,?_,?_,?_,?_,?_,trivial⟩ ?_
        all_goals try ((repeat' (first | exact True.intro | exact rfl | exact Or.inl rfl | exact Or.inr rfl | refine And.intro ?_ ?_ | fail)); done)
        show Row.row 2 _ = Row.row 2 _
        rw [List.map_append]
    repeat' first | (refine fun (hl : _ ≤ MAXL)=>?_) | fail
    conv=>whnf
    obtain ⟨b',hb'⟩ : ∃ b',e.wide w = b':=⟨_,rfl⟩
    rw [hb'] at hwi
    rw [hb']
    refine loop_live [0,3,10,11] (σ:=Nat × Desk) (fun s=>[(4,.own 8),(12,.int .i64 s.1)]) (fun s=>[.box [.sl strV f,.sl cmdV c,.str t],.box [.nil],.box [.own 7,.own 4],.dead,.row 2 (b'.cur.map portV),.box [.int .i64 c[i].kind,.str c[i].word,.int .i64 c[i].n],.box [.int .i64 c[i].kind,.str c[i].word,.int .i64 c[i].n],.row 8 (s.2.nodes.map nodeV),.row 2 (s.2.cur.map portV)]) (fun s=>s.1 ≤ b'.cur.length ∧ s.2 = ⟨b'.nodes ++ ((b'.cur.take s.1).map fun p=>workN c[i] [p]),outs b'.nodes.length s.1⟩) (fun s=>b'.cur.length - s.1) (0,⟨b'.nodes,[]⟩) ?_
    conv=>whnf
    refine ⟨?_,⟨Nat.zero_le _,by simp [outs]⟩,fun s hs=>?_⟩
    · exact (by (refine wk_sel [some 0,some 1,some 2,some 3,some 4,some 5,some 6,some 3,none] rfl rfl ?_ ?_ <;> (repeat' (first | exact True.intro | exact rfl | exact Or.inl rfl | exact Or.inr rfl | refine And.intro ?_ ?_ | fail))))
    obtain ⟨j,q⟩:=s
    obtain ⟨hj,hq⟩:=hs
    dsimp only at hj hq
    have hqn : q.nodes.length = b'.nodes.length + j:=by
      rw [hq]
      simp
      omega
    have hqc : q.cur.length = j:=by
      rw [hq]
      simp [outs_len]
    repeat' first | (refine fun (b : Bool) hb=>?_; cases b <;> (first | exact absurd hb (by decide) | exact Bool.noConfusion (show true = false from hb) | exact Bool.noConfusion (show false = true from hb) | skip)) | refine ⟨rfl,?_⟩ | fail
    rotate_left
    · have hj2 : j < b'.cur.length:=by simp only [List.length_map] at *; grind
      refine ⟨j,rfl,by simpa using hj2,?_⟩
      have hg : (List.map portV b'.cur)[j]? = some (portV b'.cur[j]):=by rw [List.getElem?_map,List.getElem?_eq_getElem hj2]; rfl
      conv=>whnf
      refine ⟨portV b'.cur[j],hg,?_⟩
      skip
      refine ⟨Gp.Port,portV,[b'.cur[j]],LeL.refl _,?_⟩
      repeat' first | exact True.intro | refine ⟨_,⟨rfl,rfl⟩,?_⟩ | refine And.intro (a:=chkPast _ _ _ _ _ _ _ _) ?_ ?_ | fail
      refine ⟨_,⟨Gp.Node,nodeV,[workN c[i] [b'.cur[j]]],LeL.refl _,rfl,rfl⟩,?_⟩
      refine ⟨_,_,⟨fun _=>rfl,?_,rfl,rfl⟩,?_⟩
      · simp only [List.length_map,List.length_cons,List.length_nil,elsOf]
        omega
      repeat' first | exact True.intro | (refine fun (hl : _ ≤ MAXL)=>?_) | refine And.intro (a:=I64 _) ?_ ?_ | refine And.intro (a:=_ ≤ 140737488355328) ?_ ?_ | refine ⟨_,⟨rfl,rfl⟩,?_⟩ | refine ⟨_,_,⟨rfl,rfl⟩,?_⟩ | refine And.intro (a:=chkPend _ _ _ _ _ _) ?_ ?_ | refine ⟨rfl,?_⟩ | fail
      all_goals try ((first | omega | (unfold I64; omega) | (simp only [List.length_append,List.length_map,List.length_cons,List.length_nil,Nat.mul_one,Int.ofNat_eq_natCast] at *; omega) | (dsimp only at *; omega) | (unfold I64; dsimp only at *; omega) | (unfold I64; grind) | grind); done)
      refine ⟨(j + 1,⟨q.nodes ++ [workN c[i] [b'.cur[j]]],q.cur ++ [⟨((q.nodes.map nodeV ++ [workN c[i] [b'.cur[j]]].map nodeV).length : Int) - 1,0⟩]⟩),?_,⟨?_,?_⟩,?_⟩
      rotate_left
      · exact hj2
      · rw [hq]
        have ep : (((b'.nodes ++ List.map (fun p=>workN c[i] [p]) (List.take j b'.cur)).map nodeV ++ [workN c[i] [b'.cur[j]]].map nodeV).length : Int) - 1 = (b'.nodes.length : Int) + (j : Int):=by
          simp only [List.length_append,List.length_map,List.length_take,List.length_cons,List.length_nil]
          omega
        dsimp only
        rw [ep]
        simp only [outs_succ,List.take_succ_eq_append_getElem hj2,List.map_append,List.append_assoc,List.map_cons,List.map_nil]
      · show b'.cur.length - (j + 1) < b'.cur.length - j
        omega
      have em1 : (q.nodes ++ [workN c[i] [b'.cur[j]]]).map nodeV = q.nodes.map nodeV ++ [workN c[i] [b'.cur[j]]].map nodeV:=List.map_append
      have em2 : ∀ x : Port,(q.cur ++ [x]).map portV = q.cur.map portV ++ [x].map portV:=fun x=>List.map_append
      dsimp only
      rw [em1,em2]
      exact (by (refine wk_sel [some 0,some 1,some 2,some 3,some 4,some 5,some 6,some 13,some 15] rfl rfl ?_ ?_ <;> (repeat' (first | exact True.intro | exact rfl | exact Or.inl rfl | exact Or.inr rfl | refine And.intro ?_ ?_ | fail))))
    have hjl : j = b'.cur.length:=by simp only [List.length_map] at *; grind
    have hwk : b'.work c[i] = q:=by rw [hq,hjl,List.take_length]; rfl
    have hst:=hst
    have hek : each ⟨c[i].kind,c[i].word,c[i].n⟩ = each c[i]:=rfl
    skip
    refine ⟨_,_,_,rfl,?_⟩
    repeat' first | (refine fun (b : Bool) hb=>?_; cases b <;> (first | exact absurd hb (by decide) | exact Bool.noConfusion (show true = false from hb) | exact Bool.noConfusion (show false = true from hb) | skip)) | refine And.intro (a:=I64 _) ?_ ?_ | fail
    all_goals try ((first | omega | (unfold I64; omega) | (simp only [List.length_append,List.length_map,List.length_cons,List.length_nil,Nat.mul_one,Int.ofNat_eq_natCast] at *; omega) | (dsimp only at *; omega) | (unfold I64; dsimp only at *; omega) | (unfold I64; grind) | grind); done)
    rotate_left
    · refine ⟨i + 1,?_,hi2,by show c.length - (i + 1) < c.length - i; omega⟩
      have e2 : e.step w c[i] = q:=by unfold Desk.step; rw [hb',hwk,if_pos ?_]; first | exact .inl (by assumption) | exact .inr (of_decide_eq_true (by assumption))
      rw [hst,e2]
      exact (by (refine wk_sel [some 0,some 1,some 2,some 7,some 8] rfl rfl ?_ ?_ <;> (repeat' (first | exact True.intro | exact rfl | exact Or.inl rfl | exact Or.inr rfl | refine And.intro ?_ ?_ | fail))))
    · refine ⟨i + 1,?_,hi2,by show c.length - (i + 1) < c.length - i; omega⟩
      have e2 : e.step w c[i] = q:=by unfold Desk.step; rw [hb',hwk,if_pos ?_]; first | exact .inl (by assumption) | exact .inr (of_decide_eq_true (by assumption))
      rw [hst,e2]
      exact (by (refine wk_sel [some 0,some 1,some 2,some 7,some 8] rfl rfl ?_ ?_ <;> (repeat' (first | exact True.intro | exact rfl | exact Or.inl rfl | exact Or.inr rfl | refine And.intro ?_ ?_ | fail))))
    refine ⟨_,_,_,rfl,?_⟩
    repeat' first | exact True.intro | refine ⟨_,_,_,LeL.refl _,?_⟩ | (refine fun (b : Bool) hb=>?_; cases b <;> (first | exact absurd hb (by decide) | exact Bool.noConfusion (show true = false from hb) | exact Bool.noConfusion (show false = true from hb) | skip)) | refine ⟨_,⟨rfl,rfl⟩,?_⟩ | refine And.intro (a:=chkPast _ _ _ _ _ _ _ _) ?_ ?_ | fail
    · refine ⟨_,⟨Gp.Node,nodeV,[joinN (joinFor c[i]).1 zCmd q.cur],LeL.refl _,rfl,rfl⟩,?_⟩
      refine ⟨_,_,⟨fun _=>rfl,?_,rfl,rfl⟩,?_⟩
      · simp only [List.length_map,List.length_cons,List.length_nil,elsOf]
        omega
      repeat' first | exact True.intro | (refine fun (hl : _ ≤ MAXL)=>?_) | refine And.intro (a:=I64 _) ?_ ?_ | refine ⟨_,⟨rfl,rfl⟩,?_⟩ | refine ⟨_,_,⟨rfl,rfl⟩,?_⟩ | refine And.intro (a:=chkPend _ _ _ _ _ _) ?_ ?_ | fail
      all_goals try ((first | omega | (unfold I64; omega) | (simp only [List.length_append,List.length_map,List.length_cons,List.length_nil,Nat.mul_one,Int.ofNat_eq_natCast] at *; omega) | (dsimp only at *; omega) | (unfold I64; dsimp only at *; omega) | (unfold I64; grind) | grind); done)
      have hne : ¬ (each c[i] = true ∨ w = 1):=by
        rintro (h | h)
        · exact absurd ((show each c[i] = false by assumption).symm.trans h) (by decide)
        · exact of_decide_eq_false (by assumption) h
      have h4 : ¬ howFor c[i] = 4:=by
        rw [← hjf]
        exact of_decide_eq_false (p:=(joinFor c[i]).1 = 4) (by assumption)
      have e2 : e.step w c[i] = ⟨q.nodes ++ [joinN (joinFor c[i]).1 zCmd q.cur],[⟨((q.nodes.map nodeV ++ [joinN (joinFor c[i]).1 zCmd q.cur].map nodeV).length : Int) - 1,0⟩]⟩:=by
        unfold Desk.step Desk.fin
        rw [hb',hwk,if_neg hne,if_neg h4,hjf]
        simp
      refine ⟨i + 1,?_,hi2,by show c.length - (i + 1) < c.length - i; omega⟩
      rw [hst,e2]
      have em1 : (q.nodes ++ [joinN (joinFor c[i]).1 zCmd q.cur]).map nodeV = q.nodes.map nodeV ++ [joinN (joinFor c[i]).1 zCmd q.cur].map nodeV:=List.map_append
      dsimp only
      rw [em1]
      exact (by (refine wk_sel [some 0,some 1,some 2,some 12,some 13] rfl rfl ?_ ?_ <;> (repeat' (first | exact True.intro | exact rfl | exact Or.inl rfl | exact Or.inr rfl | refine And.intro ?_ ?_ | fail))))
    · refine ⟨_,⟨Gp.Node,nodeV,[joinN (joinFor c[i]).1 c[i] q.cur],LeL.refl _,rfl,rfl⟩,?_⟩
      refine ⟨_,_,⟨fun _=>rfl,?_,rfl,rfl⟩,?_⟩
      · simp only [List.length_map,List.length_cons,List.length_nil,elsOf]
        omega
      repeat' first | exact True.intro | (refine fun (hl : _ ≤ MAXL)=>?_) | refine And.intro (a:=I64 _) ?_ ?_ | refine ⟨_,⟨rfl,rfl⟩,?_⟩ | refine ⟨_,_,⟨rfl,rfl⟩,?_⟩ | refine And.intro (a:=chkPend _ _ _ _ _ _) ?_ ?_ | fail
      all_goals try ((first | omega | (unfold I64; omega) | (simp only [List.length_append,List.length_map,List.length_cons,List.length_nil,Nat.mul_one,Int.ofNat_eq_natCast] at *; omega) | (dsimp only at *; omega) | (unfold I64; dsimp only at *; omega) | (unfold I64; grind) | grind); done)
      have hne : ¬ (each c[i] = true ∨ w = 1):=by
        rintro (h | h)
        · exact absurd ((show each c[i] = false by assumption).symm.trans h) (by decide)
        · exact of_decide_eq_false (by assumption) h
      have h4 : howFor c[i] = 4:=by
        rw [← hjf]
        exact of_decide_eq_true (p:=(joinFor c[i]).1 = 4) (by assumption)
      have e2 : e.step w c[i] = ⟨q.nodes ++ [joinN (joinFor c[i]).1 c[i] q.cur],[⟨((q.nodes.map nodeV ++ [joinN (joinFor c[i]).1 c[i] q.cur].map nodeV).length : Int) - 1,0⟩]⟩:=by
        unfold Desk.step Desk.fin
        rw [hb',hwk,if_neg hne,if_pos h4,hjf]
        simp
      refine ⟨i + 1,?_,hi2,by show c.length - (i + 1) < c.length - i; omega⟩
      rw [hst,e2]
      have em1 : (q.nodes ++ [joinN (joinFor c[i]).1 c[i] q.cur]).map nodeV = q.nodes.map nodeV ++ [joinN (joinFor c[i]).1 c[i] q.cur].map nodeV:=List.map_append
      dsimp only
      rw [em1]
      exact (by (refine wk_sel [some 0,some 1,some 2,some 12,some 13] rfl rfl ?_ ?_ <;> (repeat' (first | exact True.intro | exact rfl | exact Or.inl rfl | exact Or.inr rfl | refine And.intro ?_ ?_ | fail))))
  have hil : i = c.length:=by grind
  have hel : steps w b c = e:=by rw [← heq,hil,List.take_length]
  conv=>whnf
  refine join_live [2,4,7] (σ:=Unit) (fun _=>[]) (fun _=>[.box [.sl strV f,.sl cmdV c,.str t],.box [.nil],.box [.own 3,.own 4],.row 8 (e.behind.nodes.map nodeV),.row 2 (e.behind.cur.map portV)]) (fun _=>True) ?_
  conv=>whnf
  refine ⟨?_,fun _ _=>?_⟩
  · repeat' first | exact True.intro | refine ⟨_,_,_,LeL.refl _,?_⟩ | (refine fun (b : Bool) hb=>?_; cases b <;> (first | exact absurd hb (by decide) | exact Bool.noConfusion (show true = false from hb) | exact Bool.noConfusion (show false = true from hb) | skip)) | (refine fun (hl : _ ≤ MAXL)=>?_) | refine ⟨_,⟨rfl,rfl⟩,?_⟩ | refine And.intro (a:=chkPast _ _ _ _ _ _ _ _) ?_ ?_ | fail
    · have e2 : e.behind = e:=by unfold Desk.behind; rw [if_neg (by simp only [List.length_map] at *; grind)]
      refine ⟨(),?_,trivial⟩
      rw [e2]
      exact (by (refine wk_sel [some 0,some 1,some 2,some 3,some 4] rfl rfl ?_ ?_ <;> (repeat' (first | exact True.intro | exact rfl | exact Or.inl rfl | exact Or.inr rfl | refine And.intro ?_ ?_ | fail))))
    have e2 : e.behind = ⟨e.nodes ++ [joinN 1 zCmd e.cur],[⟨e.nodes.length,0⟩]⟩:=by unfold Desk.behind; rw [if_pos (by simp only [List.length_map] at *; grind)]
    refine ⟨_,⟨Gp.Node,nodeV,[joinN 1 zCmd e.cur],LeL.refl _,rfl,rfl⟩,?_⟩
    refine ⟨_,_,⟨fun _=>rfl,?_,rfl,rfl⟩,?_⟩
    · simp only [List.length_map,List.length_cons,List.length_nil,elsOf]
      omega
    repeat' first | exact True.intro | (refine fun (hl : _ ≤ MAXL)=>?_) | refine And.intro (a:=I64 _) ?_ ?_ | refine ⟨_,⟨rfl,rfl⟩,?_⟩ | refine ⟨_,_,⟨rfl,rfl⟩,?_⟩ | refine And.intro (a:=chkPend _ _ _ _ _ _) ?_ ?_ | fail
    · simp only [List.length_append,List.length_map,List.length_cons,List.length_nil]
      unfold I64
      omega
    rw [e2]
    refine ⟨(),?_,trivial⟩
    refine wk_sel [some 0,some 1,some 2,some 7,some 8] rfl rfl ⟨?_,?_,?_,?_,?_,trivial⟩ ?_
    · (repeat' (first | exact True.intro | exact rfl | exact Or.inl rfl | exact Or.inr rfl | refine And.intro ?_ ?_ | fail))
    · (repeat' (first | exact True.intro | exact rfl | exact Or.inl rfl | exact Or.inr rfl | refine And.intro ?_ ?_ | fail))
    · (repeat' (first | exact True.intro | exact rfl | exact Or.inl rfl | exact Or.inr rfl | refine And.intro ?_ ?_ | fail))
    · show Row.row 8 _ = Row.row 8 _
      simp
    · show Row.row 2 _ = Row.row 2 _
      simp [portV]
    · (repeat' (first | exact True.intro | exact rfl | exact Or.inl rfl | exact Or.inr rfl | refine And.intro ?_ ?_ | fail))
  obtain ⟨z,hz⟩ : ∃ z,e.behind = z:=⟨_,rfl⟩
  have hzl : z.nodes.length ≤ 60 ∧ z.cur.length ≤ 60:=by
    rw [← hz]
    unfold Desk.behind
    split
    · simp; omega
    · omega
  rw [hel,hz] at hpn
  rw [hz]
  repeat' first | exact True.intro | refine ⟨_,⟨rfl,rfl⟩,?_⟩ | refine And.intro (a:=chkPast _ _ _ _ _ _ _ _) ?_ ?_ | fail
  apply Exists.intro
  apply Exists.intro
  apply And.intro
  · repeat' first | exact True.intro | refine ⟨_,_,_,LeL.refl _,?_⟩ | refine ⟨_,⟨rfl,rfl⟩,?_⟩ | refine And.intro (a:=chkPast _ _ _ _ _ _ _ _) ?_ ?_ | fail
    refine ⟨_,⟨Gp.Node,nodeV,[sinkN t z.cur],LeL.refl _,rfl,rfl⟩,?_⟩
    refine ⟨_,_,⟨fun _=>rfl,?_,rfl,rfl⟩,?_⟩
    · simp only [List.length_map,List.length_cons,List.length_nil,elsOf]
      omega
    repeat' first | exact True.intro | (refine fun (hl : _ ≤ MAXL)=>?_) | refine And.intro (a:=I64 _) ?_ ?_ | refine ⟨_,⟨rfl,rfl⟩,?_⟩ | refine ⟨_,_,⟨rfl,rfl⟩,?_⟩ | refine And.intro (a:=chkPend _ _ _ _ _ _) ?_ ?_ | refine ⟨rfl,?_⟩ | fail
    · simp only [List.length_append,List.length_map,List.length_cons,List.length_nil]
      unfold I64
      omega
    · exact rfl
  repeat' first | exact True.intro | refine And.intro (a:=chkPend _ _ _ _ _ _) ?_ ?_ | fail
  refine ⟨Gp.Node,nodeV,z.nodes ++ [sinkN t z.cur],by rw [List.map_append]; exact LeL.refl _,?_⟩
  skip
  exact hK _ (by rw [hpn])
end Gv
