/- What functions of the program come to, part 3: in every world; the conditions stand in each theorem. -/
import Derived.Test.YtffljdmmambdjacGreatDoorF2
set_option linter.unusedVariables false
set_option linter.unusedSectionVars false
set_option linter.unusedSimpArgs false
open Go Go.Proofs Gw Gp
namespace Gv
variable [Glob] [Laid] [Nums] [Errs]
def overM (m : MachS) : Bool:=m.p.all fun p=>p.over
theorem all_take {l : List ProcS} {k : Nat} (hk : k < l.length) (h : (l.take k).all (fun p=>p.over) = true) (h2 : l[k].over = true) : (l.take (k + 1)).all (fun p=>p.over) = true:=by
  rw [List.take_succ_eq_append_getElem hk,List.all_append,h]
  simp [h2]
theorem overL_ca : callable Tryz.prog 25 = true:=by kernel_rfl
def overL_S : Spec:=fun args K=>∃ (m : MachS),args = [machV m] ∧ K (.bool (overM m))
noncomputable def overL_lib : List (Nat × Spec):=[]
noncomputable def overL_fns : List (Nat × FnI):=[(75,{fn:=Tryz.f75,hooks:=[],draws:=[]}),(133,{fn:=Tryz.f133,hooks:=[],draws:=[]}),(76,{fn:=Tryz.f76,hooks:=[],draws:=[]})]
noncomputable def overL_prims : List (Nat × PSpec):=[]
theorem overL_E : EnvOK ⟨Tryz.prog,tys,overL_lib,overL_fns,overL_prims,[]⟩:=env_ok mixed0 tys0 .nil (.cons (by kernel_rfl) ⟨Tryz.func75,by kernel_rfl,by kernel_rfl⟩ (.cons (by kernel_rfl) ⟨Tryz.func133,by kernel_rfl,by kernel_rfl⟩ (.cons (by kernel_rfl) ⟨Tryz.func76,by kernel_rfl,by kernel_rfl⟩ .nil))) .nil rfl
set_option maxHeartbeats 8000000 in
theorem overL_ok : Pure Tryz.prog 25 overL_S:=by
  refine pure_by overL_E 6 (fi:={fn:=Tryz.f25,hooks:=[],draws:=[]}) ⟨Tryz.func25,by kernel_rfl,by kernel_rfl⟩ ?_
  rintro _ K ⟨m,rfl,hK⟩
  replace hK : ∀ r,r = .bool (overM m) → K r:=fun r h=>h ▸ hK
  repeat' first | (refine fun (hl : _ ≤ MAXL)=>?_) | fail
  conv=>whnf
  refine loop_live [0,1,7] (σ:=Nat) (fun k=>[(8,.int .i64 k)]) (fun _=>[.box (machV m).cells]) (fun k=>k ≤ m.p.length ∧ (m.p.take k).all (fun p=>p.over) = true) (fun k=>m.p.length - k) 0 ?_
  conv=>whnf
  refine ⟨(by (refine wk_auto ?_; refine Sel4.mk rfl rfl ?_ ?_ <;> (repeat' (first | exact True.intro | exact rfl | exact Or.inl rfl | exact Or.inr rfl | refine And.intro ?_ ?_ | fail)))),⟨Nat.zero_le _,by simp⟩,fun k hk=>?_⟩
  obtain ⟨hk,hno⟩:=hk
  repeat' first | (refine fun (b : Bool) hb=>?_; cases b <;> (first | exact absurd hb (by decide) | exact Bool.noConfusion (show true = false from hb) | exact Bool.noConfusion (show false = true from hb) | skip)) | refine And.intro (a:=I64 _) ?_ ?_ | refine ⟨_,rfl,?_,rfl,?_⟩ | fail
  · have hkl : k = m.p.length := by
      have h:=of_decide_eq_false (by assumption : decide ((k : Int) < (m.p.length : Int)) = false)
      omega
    subst hkl
    rw [List.take_length] at hno
    conv=>whnf
    skip
    refine hK _ ?_
    unfold overM
    rw [hno]
    rfl
  all_goals
    have hk2 : k < m.p.length:=by
      have h:=of_decide_eq_true (by assumption : decide ((k : Int) < (m.p.length : Int)) = true)
      omega
  · exact hk2
  · have hM : m.p.length ≤ MAXL:=by assumption
    unfold I64; unfold MAXL at hM; omega
  · have ho : m.p[k].over = true:=by simpa using ‹(!m.p[k].over) = false›
    exact ⟨k + 1,(by (refine wk_auto ?_; refine Sel4.mk rfl rfl ?_ ?_ <;> (repeat' (first | exact True.intro | exact rfl | exact Or.inl rfl | exact Or.inr rfl | refine And.intro ?_ ?_ | fail)))),⟨hk2,all_take hk2 hno ho⟩,by omega⟩
  · have ho : m.p[k].over = false:=by simpa using ‹(!m.p[k].over) = true›
    conv=>whnf
    skip
    refine hK _ ?_
    have : overM m = false:=by
      unfold overM
      rw [List.all_eq_false]
      exact ⟨m.p[k],List.getElem_mem hk2,by rw [ho]; decide⟩
    rw [this]
    rfl
end Gv
namespace Gv
variable [Glob] [Laid] [Nums] [Errs]
theorem planS_ok {l : LineS} {w : Int} {r : List Gp.Node × Int} (hr : plan l w = r) (h0 : r.2 = 0) : checkLine l = 0 ∧ (1 ≤ w ∧ w ≤ 5) ∧ r = (planNodes l w,0):=by
  unfold plan at hr
  split at hr
  · rename_i h1
    rw [← hr] at h0
    exact absurd h0 h1
  · rename_i h1
    split at hr
    · rw [← hr] at h0
      exact absurd h0 (show ¬ (3 : Int) = 0 by decide)
    · exact ⟨Decidable.not_not.1 h1,by omega,hr.symm⟩
theorem new_ok {g : List Gp.Node} {f : List FileS} {rm : Int} {r : MachS × Int} (hr : newP g f rm = r) (h0 : r.2 = 0) : checkG g = 0 ∧ checkFiles f = 0 ∧ (1 ≤ rm ∧ rm ≤ 1000) ∧ r = (freshM g f rm,0):=by
  unfold newP at hr
  split at hr
  · rename_i h1
    rw [← hr] at h0
    exact absurd h0 h1
  · rename_i h1
    split at hr
    · rename_i h2
      rw [← hr] at h0
      exact absurd h0 h2
    · rename_i h2
      split at hr
      · rw [← hr] at h0
        exact absurd h0 (show ¬ (3 : Int) = 0 by decide)
      · exact ⟨Decidable.not_not.1 h1,Decidable.not_not.1 h2,by omega,hr.symm⟩
structure Goes (g : List Gp.Node) (f : List FileS) (rm : Int) (v : Bs) : Prop where
  fresh : Ok f g rm (freshM g f rm)
  steps : Steps (Ok f g rm)
  ev : evalG g f = (v,0)
  ck : ∀ m,Ok f g rm m → checkMach m = 0
  pre : ∀ m,Ok f g rm m → m.sunk <+: v
  fin : ∀ m,Ok f g rm m → ∃ n M,FinN n m (M,0) ∧ Ok f g rm M ∧ overM M = true ∧ M.sunk = v
  over : ∀ m,Ok f g rm m → overM m = true → m.sunk = v
  can : ∀ m,Ok f g rm m → overM m = false → ∃ i,i < g.length ∧ (stepM m i).2 = 0
theorem overM_iff {m : MachS} {g : List Gp.Node} (h : m.p.length = g.length) : overM m = true ↔ ∀ i,i < g.length → (pr m i).over = true:=by
  unfold overM
  rw [List.all_eq_true]
  constructor
  · intro h1 i hi
    rw [pr_at (by omega)]
    exact h1 _ (List.getElem_mem (by omega))
  · intro h1 p hp
    obtain ⟨i,hi,rfl⟩:=List.getElem_of_mem hp
    rw [← pr_at hi]
    exact h1 i (by omega)
theorem rnd_over {m : MachS} : ∀ (l : List Nat),(∀ i ∈ l,(pr m i).over = true) → rndGo l (m,true,false) = (m,true,false)
  | [],_=>rfl
  | i :: r,h=>by
    have h1:=h i (by simp)
    have hs : stepM m i = (m,7):=by unfold stepM; rw [if_pos h1]
    rw [rndGo,hs]
    dsimp only
    rw [h1]
    exact rnd_over r fun j hj=>h j (by simp [hj])
theorem goes {g : List Gp.Node} {f : List FileS} {rm : Int} (hg : checkG g = 0) (h4 : cnt 1 g ≤ 4) (hf : checkFiles f = 0) (h1 : 1 ≤ rm ∧ rm ≤ 1000) : Goes g f rm (evalG g f).1:=by
  obtain ⟨e1,e2,e3⟩:=exec_law hg h4 hf h1
  have hfin : ∀ m,Ok f g rm m → ∃ n M,FinN n m (M,0) ∧ Ok f g rm M ∧ overM M = true ∧ M.sunk = (evalG g f).1:=fun m hm=>by
    obtain ⟨-,-,⟨n,M,a,b,c,d⟩,-⟩:=e2 m hm
    exact ⟨n,M,a,b,(overM_iff b.sh.np).2 c,d⟩
  refine ⟨e1,ok_steps hg fun m hm=>(e2 m hm).1,Prod.ext rfl e3,fun m hm=>(e2 m hm).1,fun m hm=>(e2 m hm).2.1,hfin,fun m hm ho=>?_,fun m hm ho=>?_⟩
  · obtain ⟨n,M,a,b,c,d⟩:=hfin m hm
    have ho':=(overM_iff hm.sh.np).1 ho
    have hr : rnd m = (m,true,false):=rnd_over _ fun i hi=>ho' i (by have:=hm.sh.np; have:=List.mem_range.1 hi; omega)
    have hF : FinN 0 m ((rnd m).1,0):=.over (by rw [hr])
    have:=(a.uniq hF).2
    rw [hr] at this
    have : M = m:=congrArg Prod.fst this
    rw [← this,d]
  · refine (e2 m hm).2.2.2 ?_
    have : ¬ overM m = true:=by rw [ho]; decide
    rw [overM_iff hm.sh.np] at this
    rcases Classical.em (∃ i,i < g.length ∧ (pr m i).over = false) with h | h
    · exact h
    · refine absurd (fun i hi=>?_) this
      cases hh : (pr m i).over with
      | true=>rfl
      | false=>exact absurd ⟨i,hi,hh⟩ h
end Gv
namespace Gv
variable [Glob] [Laid]
def atI (k n : Int) : Int:=if k.tmod n < 0 then k.tmod n + n else k.tmod n
theorem at_ca : callable Tryz.prog 26 = true:=by kernel_rfl
def at_S : Spec:=fun args K=>∃ k n : Int,args = [.int .i64 k,.int .i64 n] ∧ I64 k ∧ 0 < n ∧ n ≤ 1000000 ∧ K (.int .i64 (atI k n))
noncomputable def at_lib : List (Nat × Spec):=[]
noncomputable def at_fns : List (Nat × FnI):=[]
noncomputable def at_prims : List (Nat × PSpec):=[]
theorem at_E : EnvOK ⟨Tryz.prog,tys,at_lib,at_fns,at_prims,[]⟩:=env_ok mixed0 tys0 .nil .nil .nil rfl
set_option maxHeartbeats 4000000 in
theorem at_ok : Pure Tryz.prog 26 at_S:=by
  refine pure_by at_E 6 (fi:={fn:=Tryz.f26,hooks:=[],draws:=[]}) ⟨Tryz.func26,by kernel_rfl,by kernel_rfl⟩ ?_
  rintro _ K ⟨k,n,rfl,hk,h0,h1,hK⟩
  replace hK : ∀ r,r = .int .i64 (atI k n) → K r:=fun r h=>h ▸ hK
  have e1:=Int.tmod_lt_of_pos k h0
  have e2:=Int.lt_tmod_of_pos k h0
  refine And.intro (by omega) ?_
  repeat' first | (refine fun (b : Bool) hb=>?_; cases b <;> (first | exact absurd hb (by decide) | exact Bool.noConfusion (show true = false from hb) | exact Bool.noConfusion (show false = true from hb) | skip)) | refine And.intro (a:=I64 _) ?_ ?_ | fail
  · refine hK _ ?_
    congr 1
    grind [atI]
  · unfold I64; grind
  · refine hK _ ?_
    congr 1
    grind [atI]
end Gv
namespace Gv
variable [Glob] [Laid] [Nums] [Errs]
theorem pix_ex {N : List Gp.Node} {q : Nat} : ∀ n,n ≤ N.length → q < insB N n → ∃ i k,i < n ∧ k < nI N i ∧ q = pix N i k
  | 0,_,h=>by rw [insB_0] at h; omega
  | n + 1,hn,h=>by
    rw [insB_succ (by omega)] at h
    by_cases h1 : q < insB N n
    · obtain ⟨i,k,a,b,c⟩:=pix_ex n (by omega) h1
      exact ⟨i,k,by omega,b,c⟩
    · exact ⟨n,q - insB N n,by omega,by omega,by unfold pix; omega⟩
theorem ok_room {g : List Gp.Node} {f : List FileS} {rm : Int} {m : MachS} (h : Ok f g rm m) {q : Nat} (hq : q < m.pipes.length) (h0 : 0 < m.pipes[q].room) : (m.pipes[q].b.length : Int) ≤ m.pipes[q].room ∧ m.pipes[q].room = rm:=by
  obtain ⟨c,e,I⟩:=h
  have hn:=I.sh.nq
  obtain ⟨i,k,a,b,rfl⟩:=pix_ex (N:=g) (q:=q) g.length (Nat.le_refl _) (by rw [insB_end]; omega)
  have Q:=I.qi i k a b
  have e1 : qu m (pix g i k) = m.pipes[pix g i k]:=by
    unfold qu
    rw [List.getD_eq_getElem?_getD,List.getElem?_eq_getElem hq]; rfl
  have h1:=Q.ck
  have h2:=Q.rm
  rw [e1] at h1 h2
  constructor
  · unfold checkPipe at h1
    split at h1
    · cases h1
    · split at h1
      · cases h1
      · omega
  · split at h2
    · omega
    · exact h2
theorem at_rng {p n : Int} (h : 0 < n) : 0 ≤ atI p n ∧ atI p n < n:=by
  have e1:=Int.tmod_lt_of_pos p h
  have e2:=Int.lt_tmod_of_pos p h
  unfold atI
  split <;> omega
def ixL (p : Int) (n k : Nat) : Int:=(atI p n + k).tmod n
theorem ixL_rng {p : Int} {n k : Nat} (h : 0 < n) : 0 ≤ ixL p n k ∧ ixL p n k < n:=by
  obtain ⟨a,b⟩:=at_rng (p:=p) (n:=n) (by omega)
  unfold ixL
  exact ⟨Int.tmod_nonneg _ (by omega),Int.tmod_lt_of_pos _ (by omega)⟩
theorem ixL_hit {p : Int} {n i : Nat} (h : i < n) : ∃ k,k < n ∧ ixL p n k = i:=by
  obtain ⟨a,b⟩:=at_rng (p:=p) (n:=n) (by omega)
  unfold ixL
  by_cases h1 : atI p n ≤ i
  · refine ⟨(i - atI p n).toNat,by omega,?_⟩
    rw [Int.toNat_of_nonneg (by omega),show atI p n + (↑i - atI p n) = (i : Int) by omega]
    exact Int.tmod_eq_of_lt (by omega) (by omega)
  · refine ⟨(i + n - atI p n).toNat,by omega,?_⟩
    rw [Int.toNat_of_nonneg (by omega),show atI p n + (↑i + ↑n - atI p n) = (i : Int) + n by omega,Int.tmod_eq_emod_of_nonneg (by omega),Int.add_emod_right]
    exact Int.emod_eq_of_lt (by omega) (by omega)
def FndL (M : MachS) (p : Int) (n : Nat) (k : Nat) (e : Int) (X : MachS) : Prop :=
  k ≤ n ∧ (e = 0 → ∃ i,i < n ∧ X = (stepM M i).1) ∧ (e ≠ 0 → ∀ j,j < k → (stepM M (ixL p n j).toNat).2 ≠ 0)
theorem fnd_step {M : MachS} {p : Int} {n k : Nat} {e : Int} {X : MachS} (h : FndL M p n k e X) (hk : k < n) (hn : M.p.length = n) (hc : checkMach M = 0) (he : e ≠ 0) :
    FndL M p n (k + 1) (stepP M (ixL p n k)).2 (stepP M (ixL p n k)).1:=by
  obtain ⟨a,b⟩:=ixL_rng (p:=p) (n:=n) (k:=k) (by omega)
  have e1 : stepP M (ixL p n k) = if (stepM M (ixL p n k).toNat).2 ≠ 0 then (zM,(stepM M (ixL p n k).toNat).2) else ((stepM M (ixL p n k).toNat).1,0):=by
    unfold stepP
    rw [if_neg (by rw [hc]; decide),if_neg (by omega)]
  rw [e1]
  refine ⟨hk,?_,?_⟩
  · split
    · rename_i h1; exact fun h2=>absurd h2 h1
    · exact fun _=>⟨_,by omega,rfl⟩
  · split
    · rename_i h1
      intro _ j hj
      rcases Nat.lt_or_ge j k with h2 | h2
      · exact h.2.2 he j h2
      · have : j = k:=by omega
        rw [this]; exact h1
    · exact fun h2=>absurd rfl h2
theorem fnd_end {M : MachS} {p : Int} {n k : Nat} {e : Int} {X : MachS} (h : FndL M p n k e X) (hk : ¬ (k < n ∧ e ≠ 0)) (hc : ∃ i,i < n ∧ (stepM M i).2 = 0) : e = 0 ∧ ∃ i,i < n ∧ X = (stepM M i).1:=by
  by_cases he : e = 0
  · exact ⟨he,h.2.1 he⟩
  · have h1 : k = n:=by have:=h.1; omega
    obtain ⟨i,hi,h2⟩:=hc
    obtain ⟨j,hj,h3⟩:=ixL_hit (p:=p) hi
    have:=h.2.2 he j (by omega)
    rw [h3] at this
    exact absurd h2 this
def xLives_S : Spec:=fun args K=>∃ (f : List Bs) (c : List Cmd) (t : Bs) (w : Int) (F : List FileS) (rm : Int) (ps : List Int),args = [.agg [.sl strV f,.sl cmdV c,.str t],.int .i64 w,.sl fileV F,.int .i64 rm,.sl intV ps] ∧ (∀ x ∈ ps,I64 x) ∧ K (.bool true)
noncomputable def xLives_lib : List (Nat × Spec):=[(24,plan_S),(19,newX_S),(13,milledX_S),(12,stepX_S),(25,overL_S),(26,at_S)]
noncomputable def xLives_fns : List (Nat × FnI):=[]
noncomputable def xLives_prims : List (Nat × PSpec):=[]
theorem xLives_E : EnvOK ⟨Tryz.prog,tys,xLives_lib,xLives_fns,xLives_prims,[]⟩:=env_ok mixed0 tys0 (.cons plan_ca plan_ok (.cons newX_ca newX_ok (.cons milledX_ca milledX_ok (.cons stepX_ca stepX_ok (.cons overL_ca overL_ok (.cons at_ca at_ok .nil)))))) .nil .nil rfl
set_option maxHeartbeats 16000000 in
theorem xLives_ok : Pure Tryz.prog 5 xLives_S:=by
  refine pure_by xLives_E 6 (fi:={fn:=Tryz.f5,hooks:=[15],draws:=[(13,[0,0,0,4,12,30,0,126,0,256,768,2046,4095,8191,16383,16383,32767,131071])]}) ⟨Tryz.func5,by kernel_rfl,by kernel_rfl⟩ ?_
  rintro _ K ⟨f,c,t,w,F,rm,ps,rfl,hI,hK⟩
  replace hK : ∀ r,r = .bool true → K r:=fun r h=>h ▸ hK
  obtain ⟨r,hr⟩ : ∃ r,plan ⟨f,c,t⟩ w = r:=⟨_,rfl⟩
  obtain ⟨s,hs⟩ : ∃ s,newP r.1 F rm = s:=⟨_,rfl⟩
  skip
  refine ⟨f,c,t,w,rfl,?_⟩
  rw [hr]
  skip
  refine ⟨r.1,F,rm,rfl,?_⟩
  rw [hs]
  repeat' first | (refine fun (b : Bool) hb=>?_; cases b <;> (first | exact absurd hb (by decide) | exact Bool.noConfusion (show true = false from hb) | exact Bool.noConfusion (show false = true from hb) | skip)) | (refine fun (hl : _ ≤ MAXL)=>?_) | refine ⟨(fun _=>rfl),?_⟩ | refine ⟨rfl,?_⟩ | fail
  all_goals (try (conv=>whnf))
  all_goals (skip)
  rotate_left
  · exact hK _ rfl
  · exact hK _ rfl
  have hr0 : r.2 = 0:=by simpa using ‹(!decide (r.2 = 0)) = false›
  have hs0 : s.2 = 0:=by simpa using ‹(!decide (s.2 = 0)) = false›
  obtain ⟨hc,h5,rfl⟩:=planS_ok hr hr0
  obtain ⟨hg,hf,h1,rfl⟩:=new_ok hs hs0
  have G:=goes (f:=F) (rm:=rm) hg (plan_gf hc h5).2 hf h1
  generalize hv : (evalG (planNodes ⟨f,c,t⟩ w) F).1 = v at G
  dsimp only at hg
  generalize hN : planNodes ⟨f,c,t⟩ w = N at *
  have hN60:=(gf_of hg).len
  have G : Goes N F rm v:=G
  conv=>whnf
  skip
  refine ⟨min ps.length 60,by omega,Nat.min_le_left _ _,?_⟩
  generalize hps : min ps.length 60 = np at *
  repeat' first | (refine fun (hl : _ ≤ MAXL)=>?_) | fail
  conv=>whnf
  skip
  refine loop_live [3,13,50,51] (σ:=Nat × MachS) (fun s=>[(52,.int .i64 s.1)]) (fun s=>[.box [.sl strV f,.sl cmdV c,.str t],.box [.sl nodeV N],.box (machV s.2).cells]) (fun s=>s.1 ≤ np ∧ Ok F N rm s.2) (fun s=>np - s.1) (0,freshM N F rm) ?_
  conv=>whnf
  refine ⟨(by (refine wk_auto ?_; refine Sel4.mk rfl rfl ?_ ?_ <;> (repeat' (first | exact True.intro | exact rfl | exact Or.inl rfl | exact Or.inr rfl | refine And.intro ?_ ?_ | fail)))),⟨Nat.zero_le _,G.fresh⟩,fun s hs=>?_⟩
  obtain ⟨i,M⟩:=s
  obtain ⟨hi,hO⟩:=hs
  dsimp only at hi hO
  repeat' first | (refine fun (b : Bool) hb=>?_; cases b <;> (first | exact absurd hb (by decide) | exact Bool.noConfusion (show true = false from hb) | exact Bool.noConfusion (show false = true from hb) | skip)) | refine ⟨_,rfl,?_,rfl,?_⟩ | fail
  · conv=>whnf
    skip
    all_goals exact hK _ rfl
  · have h:=of_decide_eq_true (by assumption : decide (((i,M).1 : Int) < (((ps.take np)).length : Int)) = true)
    exact Int.ofNat_lt.1 h
  have hnp : M.p.length = N.length:=hO.sh.np
  have c1:=G.ck _ hO
  skip
  refine ⟨M,rfl,?_⟩
  repeat' first | (refine fun (b : Bool) hb=>?_; cases b <;> (first | exact absurd hb (by decide) | exact Bool.noConfusion (show true = false from hb) | exact Bool.noConfusion (show false = true from hb) | skip)) | fail
  conv=>whnf
  rotate_left
  · skip
    all_goals exact hK _ rfl
  have ho : overM M = false:=by assumption
  have hcan:=G.can _ hO ho
  have hin : i < (ps.take np).length:=by
    have h:=of_decide_eq_true (by assumption : decide (((i,M).1 : Int) < (((ps.take np)).length : Int)) = true)
    exact Int.ofNat_lt.1 h
  have hcp : I64 (ps.take np)[i]:=hI _ (List.take_subset _ _ (List.getElem_mem _))
  generalize hp : (ps.take np)[i] = p at *
  refine join_live [3,13,18,50,51,52] (σ:=MachS) (fun _=>[(19,.int .i64 0)]) (fun X=>[.box [.sl strV f,.sl cmdV c,.str t],.box [.sl nodeV N],.box (machV M).cells,.box (machV X).cells]) (fun X=>∃ i,i < N.length ∧ X = (stepM M i).1) ?_
  conv=>whnf
  refine ⟨?_,fun X hX=>?_⟩
  · conv=>whnf
    refine loop_live [3,13,16,18,50,51,52] (σ:=Nat × Int × MachS) (fun s=>[(17,.int .i64 s.1),(19,.int .i64 s.2.1)]) (fun s=>[.box [.sl strV f,.sl cmdV c,.str t],.box [.sl nodeV N],.box (machV M).cells,.box (machV s.2.2).cells]) (fun s=>FndL M p N.length s.1 s.2.1 s.2.2) (fun s=>N.length - s.1) (0,8,M) ?_
    conv=>whnf
    refine ⟨(by (refine wk_auto ?_; refine Sel4.mk rfl rfl ?_ ?_ <;> (repeat' (first | exact True.intro | exact rfl | exact Or.inl rfl | exact Or.inr rfl | refine And.intro ?_ ?_ | fail)))),⟨Nat.zero_le _,fun h=>absurd h (show ¬ (8 : Int) = 0 by decide),fun _ j hj=>absurd hj (Nat.not_lt_zero j)⟩,fun s hs=>?_⟩
    obtain ⟨k,e,X⟩:=s
    dsimp only at hs
    repeat' first | exact True.intro | (refine fun (b : Bool) hb=>?_; cases b <;> (first | exact absurd hb (by decide) | exact Bool.noConfusion (show true = false from hb) | exact Bool.noConfusion (show false = true from hb) | skip)) | (refine fun (hl : _ ≤ MAXL)=>?_) | refine ⟨_,⟨rfl,rfl⟩,?_⟩ | refine ⟨_,(fun _=>⟨rfl,rfl⟩),?_⟩ | refine And.intro (a:=chkPast _ _ _ _ _ _ _ _) ?_ ?_ | fail
    · have hk : ¬ k < N.length := by
        have h:=of_decide_eq_false (by assumption : decide ((k : Int) < (M.p.length : Int)) = false)
        omega
      obtain ⟨rfl,hX⟩:=fnd_end hs (fun h=>hk h.1) hcan
      conv=>whnf
      skip
      all_goals exact ⟨X,(by (refine wk_auto ?_; refine Sel4.mk rfl rfl ?_ ?_ <;> (repeat' (first | exact True.intro | exact rfl | exact Or.inl rfl | exact Or.inr rfl | refine And.intro ?_ ?_ | fail)))),hX⟩
    · have he : e = 0:=by simpa using ‹(!decide ((k,e,X).2.1 = 0)) = false›
      obtain ⟨-,hX⟩:=fnd_end hs (fun h=>h.2 he) hcan
      subst he
      conv=>whnf
      skip
      all_goals exact ⟨X,(by (refine wk_auto ?_; refine Sel4.mk rfl rfl ?_ ?_ <;> (repeat' (first | exact True.intro | exact rfl | exact Or.inl rfl | exact Or.inr rfl | refine And.intro ?_ ?_ | fail)))),hX⟩
    have he : e ≠ 0:=by simpa using ‹(!decide ((k,e,X).2.1 = 0)) = true›
    have hk : k < N.length:=by
      have h:=of_decide_eq_true (by assumption : decide ((k : Int) < (M.p.length : Int)) = true)
      omega
    have hF:=fnd_step hs hk hnp c1 he
    conv=>whnf
    skip
    refine ⟨_,⟨p,(M.p.length : Int),rfl,hcp,by omega,by omega,rfl,rfl⟩,?_⟩
    repeat' first | exact True.intro | refine ⟨_,⟨rfl,rfl⟩,?_⟩ | refine ⟨_,And.intro (a:=I64 _) ?_ ⟨rfl,rfl⟩,?_⟩ | refine ⟨_,(fun _=>⟨rfl,rfl⟩),?_⟩ | refine And.intro (a:=chkPast _ _ _ _ _ _ _ _) ?_ ?_ | fail
    · obtain ⟨a,b⟩:=at_rng (p:=p) (n:=(M.p.length : Int)) (by omega)
      show I64 (atI p (M.p.length : Int) + (k : Int))
      unfold I64; omega
    conv=>whnf
    skip
    have eix : (atI p (M.p.length : Int) + (k : Int)).tmod (M.p.length : Int) = ixL p N.length k:=by rw [hnp]; rfl
    refine ⟨_,⟨by omega,rfl,rfl⟩,?_⟩
    skip
    dsimp only
    rw [eix]
    refine ⟨_,⟨M,ixL p N.length k,rfl,rfl,rfl⟩,?_⟩
    repeat' first | exact True.intro | refine And.intro (a:=I64 _) ?_ ?_ | refine ⟨_,⟨rfl,rfl⟩,?_⟩ | refine ⟨_,_,⟨rfl,rfl⟩,?_⟩ | refine And.intro (a:=chkPend _ _ _ _ _ _) ?_ ?_ | fail
    · unfold I64; omega
    conv=>whnf
    skip
    exact ⟨(k + 1,(stepP M (ixL p N.length k)).2,(stepP M (ixL p N.length k)).1),(by (refine wk_auto ?_; refine Sel4.mk rfl rfl ?_ ?_ <;> (repeat' (first | exact True.intro | exact rfl | exact Or.inl rfl | exact Or.inr rfl | refine And.intro ?_ ?_ | fail)))),hF,by show N.length - (k + 1) < N.length - k; omega⟩
  obtain ⟨j,hj,rfl⟩:=hX
  have hO2:=ok_step hO (gf_of hg) hj
  generalize (stepM M j).1 = X at *
  have hXq : ∀ q (h : q < X.pipes.length),0 < X.pipes[q].room → (X.pipes[q].b.length : Int) ≤ X.pipes[q].room ∧ X.pipes[q].room = rm:=fun q h=>ok_room hO2 h
  conv=>whnf
  repeat' first | (refine fun (b : Bool) hb=>?_; cases b <;> (first | exact absurd hb (by decide) | exact Bool.noConfusion (show true = false from hb) | exact Bool.noConfusion (show false = true from hb) | skip)) | (refine fun (hl : _ ≤ MAXL)=>?_) | fail
  conv=>whnf
  skip
  refine loop_live [3,13,50,51,52,90,91] (σ:=Nat) (fun s=>[(92,.int .i64 s)]) (fun _=>[.box [.sl strV f,.sl cmdV c,.str t],.box [.sl nodeV N],.box (machV X).cells]) (fun s=>s ≤ X.pipes.length) (fun s=>X.pipes.length - s) 0 ?_
  conv=>whnf
  refine ⟨(by (refine wk_auto ?_; refine Sel4.mk rfl rfl ?_ ?_ <;> (repeat' (first | exact True.intro | exact rfl | exact Or.inl rfl | exact Or.inr rfl | refine And.intro ?_ ?_ | fail)))),Nat.zero_le _,fun q hq=>?_⟩
  have hnp6 : np ≤ 60:=by omega
  repeat' first | (refine fun (b : Bool) hb=>?_; cases b <;> (first | exact absurd hb (by decide) | exact Bool.noConfusion (show true = false from hb) | exact Bool.noConfusion (show false = true from hb) | skip)) | (refine fun (hl : _ ≤ MAXL)=>?_) | refine And.intro (a:=I64 _) ?_ ?_ | refine ⟨_,rfl,?_,rfl,?_⟩ | fail
  · show I64 ((i : Int) + 1)
    unfold I64; omega
  · conv=>whnf
    skip
    exact ⟨(i + 1,X),(by (refine wk_auto ?_; refine Sel4.mk rfl rfl ?_ ?_ <;> (repeat' (first | exact True.intro | exact rfl | exact Or.inl rfl | exact Or.inr rfl | refine And.intro ?_ ?_ | fail)))),⟨by have:=hin; rw [List.length_take] at this; show i + 1 ≤ np; omega,hO2⟩,by have:=hin; rw [List.length_take] at this; show np - (i + 1) < np - i; omega⟩
  · have h:=of_decide_eq_true (by assumption : decide ((q : Int) < (X.pipes.length : Int)) = true)
    omega
  all_goals
    have hql : q < X.pipes.length:=by
      have h:=of_decide_eq_true (by assumption : decide ((q : Int) < (X.pipes.length : Int)) = true)
      omega
  · have hm : X.pipes.length ≤ MAXL:=by assumption
    unfold I64; unfold MAXL at hm; omega
  · conv=>whnf
    skip
    exact ⟨q + 1,(by (refine wk_auto ?_; refine Sel4.mk rfl rfl ?_ ?_ <;> (repeat' (first | exact True.intro | exact rfl | exact Or.inl rfl | exact Or.inr rfl | refine And.intro ?_ ?_ | fail)))),hql,by omega⟩
  · have hm : X.pipes.length ≤ MAXL:=by assumption
    unfold I64; unfold MAXL at hm; omega
  · conv=>whnf
    skip
    exact ⟨q + 1,(by (refine wk_auto ?_; refine Sel4.mk rfl rfl ?_ ?_ <;> (repeat' (first | exact True.intro | exact rfl | exact Or.inl rfl | exact Or.inr rfl | refine And.intro ?_ ?_ | fail)))),hql,by omega⟩
  · have h0:=of_decide_eq_true (by assumption : decide (0 < X.pipes[q].room) = true)
    have h2 : ¬ X.pipes[q].room = rm:=by simpa using ‹(!decide (X.pipes[q].room = rm)) = true›
    exact absurd (hXq q hql h0).2 h2
  · have h0:=of_decide_eq_true (by assumption : decide (0 < X.pipes[q].room) = true)
    have h2:=of_decide_eq_true (by assumption : decide (X.pipes[q].room < (X.pipes[q].b.length : Int)) = true)
    have:=(hXq q hql h0).1
    omega
end Gv
namespace Gv
variable [Glob] [Laid]
theorem opn_cmd : Opn Tryz.prog 38 cmdV (fun _=>True):=⟨fun en w fuel cs d p h hw=>by
  have hl : cs.length = 3:=(opn_width Tryz.underlying38 h).trans (by kernel_rfl)
  obtain ⟨k,_,f1⟩:=opn_field 0 0 1 (T:=3) Tryz.underlying38 rfl rfl rfl (by kernel_rfl) (opn_int Tryz.underlying3) h hw
  obtain ⟨s,_,f2⟩:=opn_field 1 1 1 (T:=9) Tryz.underlying38 rfl rfl rfl (by kernel_rfl) (opn_str Tryz.underlying9) h hw
  obtain ⟨n,_,f3⟩:=opn_field 2 2 1 (T:=3) Tryz.underlying38 rfl rfl rfl (by kernel_rfl) (opn_int Tryz.underlying3) h hw
  have:=Fit.cons 0 1 f1 rfl (Fit.cons 1 2 f2 rfl (Fit.cons 2 3 f3 rfl (Fit.last 3 hl)))
  rw [List.drop_zero] at this
  exact ⟨⟨k,s,n⟩,trivial,this⟩⟩
end Gv
namespace Gv
variable [Glob] [Laid]
def lineCells (l : LineS) : List V:=[.sl strV l.frm,.sl cmdV l.cmds,.str l.to]
theorem opn_line : Opn Tryz.prog 68 (fun l=>.agg (lineCells l)) (fun _=>True):=⟨fun en w fuel cs d p h hw=>by
  have hl : cs.length = 3:=(opn_width Tryz.underlying68 h).trans (by kernel_rfl)
  obtain ⟨k,_,f1⟩:=opn_field 0 0 1 (T:=65) Tryz.underlying68 rfl rfl rfl (by kernel_rfl) (opn_slice (k:=1) Tryz.underlying65 (by kernel_rfl) (by omega) (opn_str Tryz.underlying9)) h hw
  obtain ⟨s,_,f2⟩:=opn_field 1 1 1 (T:=66) Tryz.underlying68 rfl rfl rfl (by kernel_rfl) (opn_slice (k:=3) Tryz.underlying66 (by kernel_rfl) (by omega) opn_cmd) h hw
  obtain ⟨n,_,f3⟩:=opn_field 2 2 1 (T:=9) Tryz.underlying68 rfl rfl rfl (by kernel_rfl) (opn_str Tryz.underlying9) h hw
  have:=Fit.cons 0 1 f1 rfl (Fit.cons 1 2 f2 rfl (Fit.cons 2 3 f3 rfl (Fit.last 3 hl)))
  rw [List.drop_zero] at this
  exact ⟨⟨k,s,n⟩,trivial,this⟩⟩
end Gv
namespace Gv
variable [Glob] [Laid]
theorem opn_file : Opn Tryz.prog 56 fileV (fun _=>True):=⟨fun en w fuel cs d p h hw=>by
  have hl : cs.length = 2:=(opn_width Tryz.underlying56 h).trans (by kernel_rfl)
  obtain ⟨k,_,f1⟩:=opn_field 0 0 1 (T:=9) Tryz.underlying56 rfl rfl rfl (by kernel_rfl) (opn_str Tryz.underlying9) h hw
  obtain ⟨n,_,f3⟩:=opn_field 1 1 1 (T:=28) Tryz.underlying56 rfl rfl rfl (by kernel_rfl) (opn_slice (k:=1) Tryz.underlying28 (by kernel_rfl) (by omega) (opn_byte Tryz.underlying5)) h hw
  have:=Fit.cons 0 1 f1 rfl (Fit.cons 1 2 f3 rfl (Fit.last 2 hl))
  rw [List.drop_zero] at this
  exact ⟨⟨k,n⟩,trivial,this⟩⟩
end Gv
namespace Gv
variable [Glob] [Laid] [Nums] [Errs]
def xLivesT_S : Spec:=fun args K=>∃ (l : LineS) (w : Int) (F : List FileS) (rm : Int) (ps : List Int),args = [.agg (lineCells l),.int .i64 w,.sl fileV F,.int .i64 rm,.sl intV ps] ∧ (∀ x ∈ ps,I64 x) ∧ K (.bool true)
theorem xLivesT_ok : Pure Tryz.prog 5 xLivesT_S:=by
  intro w m args us k a1 a2 a3 a4
  obtain ⟨l,n,F,rm,ps,rfl,a5⟩:=a4
  exact xLives_ok w m _ us k a1 a2 a3 ⟨l.frm,l.cmds,l.to,n,F,rm,ps,rfl,a5⟩
end Gv
