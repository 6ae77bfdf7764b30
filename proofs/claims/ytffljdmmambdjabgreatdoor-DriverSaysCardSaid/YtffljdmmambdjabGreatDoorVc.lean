/- A calculus of what functions come to, part c: what is said holds in every world; conditions stand in each theorem. -/
import Derived.Below
import Derived.ChangeShapes
import Derived.Deep.Slices
import Derived.Lib.Bytealg
import Derived.Lib.Bytes
import Derived.SizedLaws
import Derived.Test.YtffljdmmambdjabGreatDoorVb
set_option linter.unusedVariables false
set_option linter.unusedSimpArgs false
set_option linter.unusedSectionVars false
section PartV12
namespace Gv
open Go Go.RowKit Gw
variable [Glob]
section
variable {w0:Start} {w w':World} {m0 R m:Mem} {q:Loc} {rows rows':Rows} {E:Env} {P:Program} {mb:Mem} {qb:Loc} {n:Nat} {L L':VSlots} {a a':Act}
theorem SIM.mk' {R m:Mem} {q:Loc} (C:Cf w0 m0 rows R m q w) (S:SlotsR m q L a) (hs:mb.Le m∧qb.Le q) (h1:a.tmps.size=n) (h2:a.defers=[]):SIM w0 m0 mb qb n L rows a w:=⟨⟨R,m,q,C.sit,C.rok,S,hs.1,hs.2⟩,h1,h2⟩
theorem SIM.put {R m:Mem} {q:Loc} {v:V} {u:Value} {d:Option Tmp} (C:Cf w0 m0 rows R m q w) (S:SlotsR m q L a) (hs:mb.Le m∧qb.Le q) (h1:a.tmps.size=n) (h2:a.defers=[]) (hv:VR m q v u) (hd:∀ t,d=some t→t < n):SIM w0 m0 mb qb n (putV d v L) rows (a.put d u) w:=by
 cases d with
 | none=>exact .mk' C S hs h1 h2
 | some t=>exact .mk' C (S.put (by rw [h1];exact hd t rfl) hv) hs (by simp [Act.put,h1]) (by simp [Act.put,h2])
theorem vr_undef {m:Mem} {q:Loc}:VR m q (.tup []) undef:=.tup (us:=[]) rfl fun i v u h=>by simp at h
theorem guard_on {ops:Array Oper} {o:Oper} {i t:Nat} {b want:Bool} (hg:o.guard=some (i,want)) (ht:guardT ops.toList i=some t) (hv:a.tmps.getD t undef=.bool b):Region.wanted o (yielded ops a.tmps)=(b == want):=by
 unfold Region.wanted
 rw [hg]
 simp only
 have hi:(ops[i]?).bind (·.dst)=some t:=by
  unfold guardT at ht
  rw [nth_eq] at ht
  split at ht
  ·rename_i o' ho'
   have:ops[i]?=some o':=by simpa using ho'
   rw [this];exact ht
  ·cases ht
 unfold yielded
 rw [hi]
 simp only [Option.bind_some]
 rw [Array.getD_eq_getD_getElem?] at hv
 cases h3:a.tmps[t]? with
 | none=>rw [h3] at hv;cases hv
 | some u=>rw [h3] at hv;simp at hv;subst hv;cases b<;>cases want<;>rfl
theorem guard_un {ops:Array Oper} {o:Oper} {i t:Nat} {want:Bool} (hg:o.guard=some (i,want)) (ht:guardT ops.toList i=some t) (hv:a.tmps.getD t undef=undef):Region.wanted o (yielded ops a.tmps)=false:=by
 unfold Region.wanted
 rw [hg]
 simp only
 have hi:(ops[i]?).bind (·.dst)=some t:=by
  unfold guardT at ht
  rw [nth_eq] at ht
  split at ht
  ·rename_i o' ho'
   have:ops[i]?=some o':=by simpa using ho'
   rw [this];exact ht
  ·cases ht
 unfold yielded
 rw [hi]
 simp only [Option.bind_some]
 rw [Array.getD_eq_getD_getElem?] at hv
 cases h3:a.tmps[t]? with
 | none=>simp
 | some u=>rw [h3] at hv;simp at hv;subst hv;simp [undef]
theorem look_lit {t:Nat} {b:Bool} {L:VSlots} {a:Act} {m:Mem} {q:Loc} (S:SlotsR m q L a) (hv:a.tmps.getD t undef=.bool b):SlotsR m q ((t,.lit b)::L) a:=fun s v e=>by
 unfold look at e
 split at e
 ·rename_i e1
  have e2:t=s:=Nat.eq_of_beq_eq_true e1
  subst e2
  cases e
  rw [hv];exact .lit
 ·exact S s v e
theorem wpOps_ok (H:EnvOK E) {call:CallT} (HC:CallOK E call) {dr:Bool} {ops:Array Oper} {K:VSlots→Rows→Prop} {Q:Exit→Act→World→Prop} (hK:∀ L' rows' a' w', K L' rows'→SIM w0 m0 mb qb n L' rows' a' w'→Q .normal a' w') :
  ∀ (rest:List Oper) (L:VSlots) (rows:Rows) (a:Act) (w:World),dstsL n rest=true→wpOps E call dr ops.toList rest L rows K→SIM w0 m0 mb qb n L rows a w→wpList E.P ops Q rest a w
 | [],L,rows,a,w,_,h,S=>hK _ _ _ _ h S
 | o::rest,L,rows,a,w,hd,h,S=>by
  obtain ⟨⟨R,m,q,s1,s2,s3,s4⟩,s5,s6⟩:=S
  have C:Cf w0 m0 rows R m q w:=⟨s1,s2⟩
  unfold dstsL at hd
  rw [Bool.and_eq_true] at hd
  have hdst:∀ t,o.dst=some t→t < n:=fun t ht=>by
   have:=hd.1;rw [ht] at this;simpa [Nat.blt_eq] using this
  have on:∀ L1:VSlots,SlotsR m q L1 a→Region.wanted o (yielded ops a.tmps)=true→(xop E call dr L1 rows o.op fun v rows'=>wpOps E call dr ops.toList rest (putV o.dst v L1) rows' K)→wpList E.P ops Q (o::rest) a w:=fun L1 s3 hw h=>by
   unfold wpList
   rw [if_pos hw]
   left
   refine (xop_ok H HC C s3 h).wp fun u w' ⟨v,rows',R',m',q',hk,C',hm,hq,hv⟩=>?_
   exact wpOps_ok H HC hK rest _ _ _ _ hd.2 hk (.put C' (s3.up hm hq) ⟨s4.1.trans hm,s4.2.trans hq⟩ s5 s6 hv hdst)
  have off:∀ L1:VSlots,SlotsR m q L1 a→Region.wanted o (yielded ops a.tmps)=false→wpOps E call dr ops.toList rest (putV o.dst (.tup []) L1) rows K→wpList E.P ops Q (o::rest) a w:=fun L1 s3 hw h=>by
   unfold wpList
   rw [if_neg (by rw [hw];simp)]
   exact wpOps_ok H HC hK rest _ _ _ _ hd.2 h (.put C s3 s4 s5 s6 vr_undef hdst)
  unfold wpOps at h
  split at h
  ·rename_i hg
   exact on L s3 (by simp [Region.wanted,hg]) h
  ·rename_i i want hg
   split at h
   ·exact h.elim
   rename_i t ht
   split at h
   ·rename_i b hb
    have hv:=s3 t _ hb
    generalize hu:a.tmps.getD t undef=u at hv
    cases hv
    have hw:=guard_on hg ht hu
    cases b<;>cases want<;>first|exact on L s3 hw h|exact off L s3 hw h
   ·rename_i c hb
    have hv:=s3 t _ hb
    generalize hu:a.tmps.getD t undef=u at hv
    cases hv
    have hw:=guard_on hg ht hu
    have h:=h c rfl
    have s3':=look_lit s3 hu
    cases c<;>cases want<;>first|exact on _ s3' hw h|exact off _ s3' hw h
   ·rename_i hb
    have hv:=s3 t _ hb
    have hu:a.tmps.getD t undef=undef:=by
     generalize a.tmps.getD t undef=u at hv
     cases hv with
     | @tup _ _ us hl _ =>
      have:us=[]:=List.length_eq_zero_iff.1 (by simpa using hl.symm)
      subst this;rfl
    exact off L s3 (guard_un hg ht hu) h
   ·exact h.elim
def exOf:Ex→Exit
 | .normal=>.normal
 | .exit id=>.exit id
 | .ret=>.ret
theorem wp_loop_idx {c:Code} {σ:Type} {Q:Exit→Act→World→Prop} (J : σ→Act→World→Prop) (μ : σ→Nat) (s0 : σ) (h0:J s0 a w)
  (step:∀ s a w,J s a w→c.wp P (Exit.then (fun a' w'=>∃ s',J s' a' w'∧μ s' < μ s) Q) a w):(Code.loop c).wp P Q a w:=by
 intro b kk cs
 have key:∀ k s a w,μ s=k→J s a w→∃ e a' w',Q e a' w'∧Arrives P (lone (b.at a (.code c::.inLoop c::kk)) cs w) b kk cs e a' w':=by
  intro k
  induction k using Nat.strongRecOn with
  | _ k ih =>
   intro s a w hk hJ
   obtain ⟨e,a₁,w₁,hq,harr⟩:=step s a w hJ b (.inLoop c::kk) cs
   cases e with
   | normal =>
    obtain ⟨s',hI₁,hlt⟩:=hq
    obtain ⟨e₂,a₂,w₂,hq₂,harr₂⟩:=ih (μ s') (by omega) s' a₁ w₁ rfl hI₁
    exact ⟨e₂,a₂,w₂,hq₂,.of_steps (Steps.trans harr (.one step_inLoop)) harr₂⟩
   | exit id=>exact ⟨_,a₁,w₁,hq,.pass (x:=.inLoop c) rfl (fun _ _=>.inl (by simp)) harr⟩
   | goto l=>exact ⟨_,a₁,w₁,hq,.pass (x:=.inLoop c) rfl (fun _ _=>.inl (by simp)) harr⟩
   | ret=>exact ⟨_,a₁,w₁,hq,.pass (x:=.inLoop c) rfl (fun _ _=>.inl (by simp)) harr⟩
   | panic ch=>exact ⟨_,a₁,w₁,hq,.pass (x:=.inLoop c) rfl (fun _ _=>.inl (by simp)) harr⟩
   | outgrown=>exact ⟨_,a₁,w₁,hq,.pass (x:=.inLoop c) rfl (fun _ _=>.inl (by simp)) harr⟩
 obtain ⟨e,a',w',hq,harr⟩:=key _ s0 a w rfl h0
 exact ⟨e,a',w',hq,.of_steps (.one step_loop) harr⟩
def RegOK (E:Env) (call:CallT):Prop:=∀ w0 m0 mb qb n ds id ops dr L rows a w (K:VSlots→Rows→Prop) (Q:Exit→Act→World→Prop),dstsL n ops.toList=true→drawsC E ds (.region id ops dr)=true→wpReg E call ds id ops dr L rows K→SIM w0 m0 mb qb n L rows a w →
 (∀ L' rows' a' w',K L' rows'→SIM w0 m0 mb qb n L' rows' a' w'→(∀ t,(∀ o∈ops.toList,o.dst≠some t)→a'.tmps.getD t undef=a.tmps.getD t undef)→Q .normal a' w')→(Code.region id ops dr).wp E.P Q a w
def allMem (w:World):Mem:=fun b=>w.heap[b]?
theorem allMem_sub (w:World):Sub (allMem w) w:=fun b o h=>h
theorem sub_le {m:Mem} {w:World} (h:Sub m w):m.Le (allMem w):=fun b o e=>h b o e
theorem view_ok (C:Cf w0 m0 rows R m q w) {v v':V} {u:Value} (h:viewV rows v v') (hv:VR m q v u):VR (allMem w) noLoc v' u:=by
 have pure:v.pure=true∧v'=v→VR (allMem w) noLoc v' u:=fun ⟨hp,e⟩=>by subst e;exact (hv.free hp).up (sub_le C.sit.mem) (Loc.Le.refl _)
 unfold viewV at h
 split at h
 ·split at h
  ·rename_i hr
   split at h
   ·rename_i enc l
    subst h
    rw [nth_eq] at hr
    obtain ⟨R',m',C',hm⟩:=C.fz hr (LeL.refl _)
    have hlt:=(List.getElem?_eq_some_iff.1 hr).1
    exact (C'.own_fz (by simp [hlt]) (hv.up hm (Loc.Le.refl q))).up (sub_le C'.sit.mem) (Loc.Le.refl _)
   ·exact h.elim
  ·exact h.elim
 ·split at h
  ·rename_i t0 cells hr
   obtain ⟨hp,rfl⟩:=h
   rw [nth_eq] at hr
   obtain ⟨b,arr,T,g1,g2,-,g3,g4⟩:=C.rok.row _ _ hr
   cases hv with
   | ptr hq =>
    rw [g1] at hq
    cases hq
    have key:∀ (j:Nat) v,(V.agg cells).cells[j]?=some v→∃ u,arr[0+j]?=some u∧u.oneCell'=true∧VR (allMem w) noLoc v u:=fun j v e=>by
     obtain ⟨u,k1,k2,k3⟩:=g4 j v e
     refine ⟨u,by simpa using k1,k2,?_⟩
     have hpv:v.pure=true:=allPure_ok _ hp v (List.mem_of_getElem? e)
     exact (k3.free hpv).up (sub_le C.sit.mem) (Loc.Le.refl _)
    rename_i r0 o0 _
    have:=VR.elt (m:=allMem w) (q:=noLoc) (x:=.agg cells) (o:=o0) (off:=0) (fun j=>arr.getD j undef) (C.sit.own b _ g2).2.1 (fun j v e=>by
     obtain ⟨u,k1,k2,k3⟩:=key j v e
     have k1':arr[j]?=some u:=by simpa using k1
     rw [Array.getD_eq_getD_getElem?,k1']
     exact ⟨by simpa using k1',k2⟩) (fun j v e=>by
     obtain ⟨u,k1,k2,k3⟩:=key j v e
     have k1':arr[j]?=some u:=by simpa using k1
     rw [Array.getD_eq_getD_getElem?,k1']
     exact k3)
    simpa using this
  ·exact h.elim
 ·exact pure h
theorem viewSlots_ok (C:Cf w0 m0 rows R m q w) {a:Act} (S:SlotsR m q L a):∀ {Lb:VSlots} (h:viewSlots rows L Lb) t v,look Lb t=some v→VR (allMem w) noLoc v (a.tmps.getD t undef)
 | [],h,t,v,e=>by simp [look] at e
 | (t',v')::r,h,t,v,e=>by
  unfold look at e
  split at e
  ·rename_i e1
   have:=Nat.eq_of_beq_eq_true e1
   subst this;cases e
   have h1:=h.1
   split at h1
   ·rename_i v0 hv0;exact view_ok C h1 (S _ _ hv0)
   ·exact h1.elim
  ·exact viewSlots_ok C S h.2 t v e
theorem flat1_ok {m m':Mem} {q q':Loc} {v:V} {u:Value} (hf:flat1 v=true) (h:VR m q v u):VR m' q' v u:=by
 cases h<;>first|(simp [flat1] at hf;done)|skip
 case int=>exact .int
 case bool=>exact .bool
 case lit=>exact .lit
 case str h=>exact .str h
theorem noD_ok {t:Nat}:∀ {ops:List Oper},noD t ops=true→∀ o∈ops,o.dst≠some t
 | [],h,o,ho=>by simp at ho
 | x::r,h,o,ho=>by
  unfold noD at h
  rw [List.mem_cons] at ho
  split at h
  ·rename_i d hd
   split at h
   ·cases h
   ·rename_i e
    rcases ho with rfl|ho
    ·rw [hd]
     intro e2
     cases e2
     simp at e
    ·exact noD_ok h o ho
  ·rename_i hd
   rcases ho with rfl|ho
   ·rw [hd];simp
   ·exact noD_ok h o ho
theorem back_ok {m m':Mem} {q q':Loc} {ops:List Oper} {L':VSlots} {a a':Act} (S:SlotsR m q L a) (S':SlotsR m' q' L' a') (hf:∀ t,(∀ o∈ops,o.dst≠some t)→a'.tmps.getD t undef=a.tmps.getD t undef):∀ {L2:VSlots},backSlots ops L L' L2→SlotsR m q L2 a'
 | [],h,t,v,e=>by simp [look] at e
 | (t',v')::r,h,t,v,e=>by
  unfold look at e
  split at e
  ·rename_i e1
   have:=Nat.eq_of_beq_eq_true e1
   subst this;cases e
   have h1:=h.1
   split at h1
   ·rename_i hn
    rw [hf _ (noD_ok hn)]
    exact S _ _ h1
   ·split at h1
    ·rename_i v0 hv0
     obtain ⟨hf,rfl⟩:=h1
     exact flat1_ok hf (S' _ _ hv0)
    ·exact h1.elim
  ·exact back_ok S S' hf h.2 t v e
theorem borrow_ok {call:CallT} (HR:RegOK E call) {ds:List (Nat × List Nat)} {id:Nat} {ops:Array Oper} {dr:Bool} {K:VSlots→Rows→Prop} {Q:Exit→Act→World→Prop} (hd:dstsL n ops.toList=true) (hw:drawsC E ds (.region id ops dr)=true)
  (h:Borrow E.P (.region id ops dr) ops.toList (wpReg E call ds id ops dr) L rows K) (S:SIM w0 m0 mb qb n L rows a w) (hQ:∀ L' rows' a' w',K L' rows'→SIM w0 m0 mb qb n L' rows' a' w'→Q .normal a' w'):(Code.region id ops dr).wp E.P Q a w:=by
 rcases h with @⟨Lb,hv,h⟩|⟨h⟩
 rotate_left
 ·exact h _ _ _ _ _ _ _ _ hd S hQ
 obtain ⟨⟨R,m,q,s1,s2,s3,s4⟩,s5,s6⟩:=S
 have C:Cf w0 m0 rows R m q w:=⟨s1,s2⟩
 refine HR ⟨w,[]⟩ (allMem w) (allMem w) noLoc n ds id ops dr _ [] a w _ Q hd hw h ⟨⟨fun _=>none,allMem w,noLoc,.start (allMem_sub w) (C.sit.glob.trans (sub_le C.sit.mem)),⟨(fun r x h=>by cases h),(fun r x h=>by simp at h),(fun r r' x x' b h=>by simp at h)⟩,(fun t v e=>viewSlots_ok C s3 hv t v e),Mem.Le.refl _,Loc.Le.refl _⟩,s5,s6⟩ fun L' rows' a' w' ⟨L2,hb,hk⟩ S' hf=>?_
 obtain ⟨⟨R',m',q',t1,t2,t3,t4⟩,t5,t6⟩:=S'
 exact hQ _ _ _ _ hk ⟨⟨R,m,q,s1.step t1.bel,s2,back_ok s3 t3 hf hb,s4⟩,t5,t6⟩
theorem wpC_ok (H:EnvOK E) {call:CallT} (HC:CallOK E call) (HR:RegOK E call) {ds:List (Nat × List Nat)} {hooks:List Nat} {nb:Nat} (hqb:∀ r x, qb r=some x→r < nb):∀ (c:Code) (L:VSlots) (rows:Rows) (K:KE) (Q:Exit→Act→World→Prop) (a:Act) (w:World), dstsC n c=true→drawsC E ds c=true→wpC E call ds hooks nb c L rows K→SIM w0 m0 mb qb n L rows a w →
  (∀ e L' rows' a' w',K e L' rows'→SIM w0 m0 mb qb n L' rows' a' w'→Q (exOf e) a' w')→c.wp E.P Q a w
 | .skip,L,rows,K,Q,a,w,hd,hw,h,S,hQ=>wp_skip (hQ _ _ _ _ _ h S)
 | .region id ops dr,L,rows,K,Q,a,w,hd,hw,h,S,hQ=>by
  unfold wpC at h
  split at h
  ·exact HR _ _ _ _ _ ds id ops dr _ _ _ _ _ _ hd hw h S fun L' rows' a' w' hk S' _=>hQ .normal _ _ _ _ hk S'
  ·exact borrow_ok HR hd hw h S fun L' rows' a' w' hk S'=>hQ .normal _ _ _ _ hk S'
 | .seq x y,L,rows,K,Q,a,w,hd,hw,h,S,hQ=>by
  unfold wpC at h
  unfold dstsC at hd
  unfold drawsC at hw
  rw [Bool.and_eq_true] at hd hw
  split at h
  ·refine wp_seq (wpC_ok H HC HR hqb x L rows _ _ a w hd.1 hw.1 h S fun e L' rows' a' w' hk S'=>?_)
   cases e with
   | normal=>exact wpC_ok H HC HR hqb y L' rows' K Q a' w' hd.2 hw.2 hk S' hQ
   | exit id=>exact hQ _ _ _ _ _ hk S'
   | ret=>exact hQ _ _ _ _ _ hk S'
  ·rcases h with @⟨σ,Sl,Rw,I,h1,h2⟩|⟨h1⟩
   ·refine wp_seq (wpC_ok H HC HR hqb x L rows _ _ a w hd.1 hw.1 h1 S fun e L' rows' a' w' hk S'=>?_)
    cases e with
    | normal =>
     obtain ⟨s,g1,g2⟩:=hk
     exact wpC_ok H HC HR hqb y _ _ K Q a' w' hd.2 hw.2 (h2 s g2) (g1.sim _ _ _ _ _ _ _ hqb S') hQ
    | exit id=>exact hQ _ _ _ _ _ hk S'
    | ret=>exact hQ _ _ _ _ _ hk S'
   ·refine wp_seq (wpC_ok H HC HR hqb x L rows _ _ a w hd.1 hw.1 h1 S fun e L' rows' a' w' hk S'=>?_)
    cases e with
    | normal =>
     obtain ⟨L2,rows2,g1,g2⟩:=hk.sim _ _ _ _ _ _ _ hqb S'
     exact wpC_ok H HC HR hqb y _ _ K Q a' w' hd.2 hw.2 g1 g2 hQ
    | exit id=>exact hQ _ _ _ _ _ hk S'
    | ret=>exact hQ _ _ _ _ _ hk S'
 | .cond c x y,L,rows,K,Q,a,w,hd,hw,h,S,hQ=>by
  unfold wpC at h
  unfold dstsC at hd
  unfold drawsC at hw
  rw [Bool.and_eq_true] at hd hw
  obtain ⟨⟨R,m,q,s1,s2,s3,s4⟩,s5,s6⟩:=id S
  obtain ⟨v,h,hv⟩:=evO_ok s3 h
  split at h
  ·generalize hu:a.eval c=u at hv;cases hv;exact wp_cond_true hu (wpC_ok H HC HR hqb x L rows K Q a w hd.1 hw.1 h S hQ)
  ·generalize hu:a.eval c=u at hv;cases hv;exact wp_cond_false hu (wpC_ok H HC HR hqb y L rows K Q a w hd.2 hw.2 h S hQ)
  ·rename_i t
   generalize hu:a.eval c=u at hv
   cases hv
   have h:=h t rfl
   cases t with
   | true=>exact wp_cond_true hu (wpC_ok H HC HR hqb x L rows K Q a w hd.1 hw.1 h S hQ)
   | false=>exact wp_cond_false hu (wpC_ok H HC HR hqb y L rows K Q a w hd.2 hw.2 h S hQ)
  ·exact h.elim
 | .block id b,L,rows,K,Q,a,w,hd,hw,h,S,hQ=>by
  unfold wpC at h
  refine wp_block (wpC_ok H HC HR hqb b L rows _ _ a w hd hw h S fun e L' rows' a' w' hk S'=>?_)
  cases e with
  | normal=>exact hQ .normal _ _ _ _ hk S'
  | exit j =>
   simp only [exOf,Exit.inBlock]
   simp only at hk
   split at hk
   ·rename_i e
    rw [if_pos (Nat.eq_of_beq_eq_true e)];exact hQ .normal _ _ _ _ hk S'
   ·rename_i e
    rw [if_neg (fun h=>by subst h;simp at e)];exact hQ (.exit j) _ _ _ _ hk S'
  | ret=>exact hQ .ret _ _ _ _ hk S'
 | .loop b,L,rows,K,Q,a,w,hd,hw,h,S,hQ=>by
  unfold wpC at h
  obtain @⟨σ,Sl,Rw,I,μ,s0,h1,h2,h3⟩:=h
  refine wp_loop_idx (fun s a w=>I s∧SIM w0 m0 mb qb n (Sl s) (Rw s) a w) μ s0 ⟨h2,h1.sim _ _ _ _ _ _ _ hqb S⟩ fun s a w ⟨hI,S⟩=>?_
  refine wpC_ok H HC HR hqb b _ _ _ _ a w hd hw (h3 s hI) S fun e L' rows' a' w' hk S'=>?_
  cases e with
  | normal =>
   obtain ⟨s',g1,g2,g3⟩:=hk
   exact ⟨s',⟨g2,g1.sim _ _ _ _ _ _ _ hqb S'⟩,g3⟩
  | exit id=>exact hQ (.exit id) _ _ _ _ hk S'
  | ret=>exact hQ .ret _ _ _ _ hk S'
 | .exit id,L,rows,K,Q,a,w,hd,hw,h,S,hQ=>wp_exit (hQ (.exit id) _ _ _ _ h S)
 | .ret,L,rows,K,Q,a,w,hd,hw,h,S,hQ=>wp_ret (hQ .ret _ _ _ _ h S)
 | .rangeFunc ..,L,rows,K,Q,a,w,hd,hw,h,S,hQ=>h.elim
 | .scope _,L,rows,K,Q,a,w,hd,hw,h,S,hQ=>h.elim
 | .label _,L,rows,K,Q,a,w,hd,hw,h,S,hQ=>h.elim
 | .goto _,L,rows,K,Q,a,w,hd,hw,h,S,hQ=>h.elim
 | .refuse _,L,rows,K,Q,a,w,hd,hw,h,S,hQ=>h.elim
theorem slotsV_look:∀ (i:Nat) (vs:List V) (t:Nat) (v:V),look (slotsV i vs) t=some v→i≤t∧vs[t-i]?=some v
 | i,[],t,v,h=>by simp [slotsV,look] at h
 | i,u::r,t,v,h=>by
  unfold slotsV look at h
  split at h
  ·rename_i e
   have:i=t:=Nat.eq_of_beq_eq_true e
   subst this;cases h;simp
  ·rename_i e
   have ⟨h1,h2⟩:=slotsV_look (i+1) r t v h
   refine ⟨by omega,?_⟩
   rw [show t-i=(t-(i+1))+1 by omega];simpa using h2
theorem resK_ok (H:EnvOK E) {R m:Mem} {q:Loc} (C:Cf w0 m0 rows R m q w) (S:SlotsR m q L a):∀ (rs:List ResultVar) (k:List V→Prop),resK E rs L rows k→∃ vs us,k vs∧VRL m q vs us∧(rs.mapM (rv a.tmps)).run E.P w=.ok us w
 | [],k,h=>⟨[],[],h,VRL.nil,rfl⟩
 | .tmp t::r,k,h=>by
  unfold resK at h
  split at h
  ·rename_i v hv
   obtain ⟨vs,us,h1,h2,h3⟩:=resK_ok H C S r _ h
   refine ⟨_,_,h1,VRL.cons (S t v hv) h2,?_⟩
   simp only [List.mapM_cons,rv,Sem.run_bind,Sem.run_pure,Result.andThen_ok,h3]
  ·exact h.elim
 | .cell c T::r,k,h=>by
  unfold resK at h
  split at h
  ·rename_i av hav
   obtain ⟨v,u,p,h1,h2,h3,h4⟩:=loadO_ok H C (S c av hav) h
   obtain ⟨vs,us,g1,g2,g3⟩:=resK_ok H C S r _ h1
   refine ⟨_,_,g1,VRL.cons h4 g2,?_⟩
   have e:(asAddr (.pointer (some p))).run E.P w=.ok p w:=rfl
   simp only [List.mapM_cons,rv,h2,e,h3,Sem.run_bind,Sem.run_pure,Result.andThen_ok,g3]
  ·exact h.elim
theorem pack_ok {m:Mem} {q:Loc} {vs:List V} {us:List Value} (h:VRL m q vs us):VR m q (pack vs) (packV us):=by
 have hl:=h.len
 match vs,us,hl with
 | [],[],_=>exact .tup rfl fun i v u h=>by simp at h
 | [v],[u],_=>exact h.el 0 v u rfl rfl
 | v::v'::r,u::u'::s,_=>exact .tup h.len h.el
theorem mapM_arr {α β:Type} {f : α→Sem β} {as:Array α} {us:List β} (h:(as.toList.mapM f).run P w=.ok us w'):(as.mapM f).run P w=.ok us.toArray w':=by
 cases as with
 | mk l =>
  show Sem.run P (l.toArray.mapM _) w=_
  rw [List.mapM_toArray]
  simp only [Sem.run_map] at h ⊢
  rw [h]
  rfl
theorem wpFn_ok (H:EnvOK E) {call:CallT} (HC:CallOK E call) (HR:RegOK E call) {f:FuncId} {fi:FnI} (hf:FnOK E f fi) {R m:Mem} {q:Loc} (C:Cf w0 m0 rows R m q w) {args:List V} {us:List Value} (hv:VRL m q args us) {k:V→Rows→Prop} (h:wpFn E call fi args rows k) :
  Calls E.P f us.toArray w fun e w'=>∃ u,e=.returned u∧After w0 m0 m q k u w':=by
 unfold wpFn at h
 split at h
 ·exact h.elim
 ·exact h.elim
 rename_i c hc hn
 rw [wpCR_eq] at h
 have hd:=hf.dsts
 rw [hc] at hd
 have hdw:=hf.draws
 rw [hc] at hdw
 have hn:us.length≤fi.fn.ntmps:=by rw [←hv.len];simpa [Nat.ble_eq] using hn
 refine calls_of_wp hf.fn hc ?_
 have hS:SIM w0 m0 m q fi.fn.ntmps (slotsV 0 args) rows { tmps:=us.toArray++Array.replicate (fi.fn.ntmps-us.toArray.size) undef,defers:=[] } w:=by
  refine .mk' C (fun t v e=>?_) ⟨Mem.Le.refl m,Loc.Le.refl q⟩ (by simp;omega) rfl
  obtain ⟨-,h2⟩:=slotsV_look 0 args t v e
  have h3:args[t]?=some v:=by simpa using h2
  obtain ⟨u,h4,h5⟩:=hv.getElem h3
  have hlt:=(List.getElem?_eq_some_iff.1 h4).1
  have:(us.toArray++Array.replicate (fi.fn.ntmps-us.toArray.size) undef).getD t undef=u:=by
   rw [Array.getD_eq_getD_getElem?,Array.getElem?_append_left (by simpa using hlt)]
   simp [h4]
  rw [this];exact h5
 have fin : ∀ (L' : VSlots) (rows' : Rows) (a' : Act) (w' : World), (resK E fi.fn.results.toList L' rows' fun vs => k (pack vs) rows') → SIM w0 m0 m q fi.fn.ntmps L' rows' a' w' →
     a'.defers=[]∧∃ v,(results fi.fn a'.tmps).run E.P w'=.ok v w'∧∃ u,Ending.returned v=.returned u∧After w0 m0 m q k u w':=by
  intro L' rows' a' w' hk S'
  obtain ⟨⟨R',m',q',s1,s2,s3,s4,s5⟩,s6,s7⟩:=S'
  obtain ⟨vs,xs,g1,g2,g3⟩:=resK_ok (w0:=w0) (m0:=m0) H ⟨s1,s2⟩ s3 _ _ hk
  refine ⟨s7,packV xs,?_,_,rfl,_,_,_,_,_,g1,⟨s1,s2⟩,s4,s5,pack_ok g2⟩
  rw [results_eq]
  have e:(fi.fn.results.mapM (rv a'.tmps)).run E.P w'=.ok xs.toArray w':=by
   exact mapM_arr g3
  simp only [Sem.run_bind,e,Result.andThen_ok,Sem.run_pure]
  match xs with
  | []=>rfl
  | [x]=>rfl
  | x::y::r=>simp [packV]
 refine wpC_ok H HC HR (fun r x h=>C.rok.fresh r x h) c _ _ _ _ _ _ hd hdw h hS fun e L' rows' a' w' hk S'=>?_
 cases e with
 | normal=>exact fin L' rows' a' w' hk S'
 | ret=>exact fin L' rows' a' w' hk S'
 | exit id=>exact hk.elim
end
end Gv
end PartV12
section PartV12b
namespace Gv
open Go Go.RowKit Gw
variable [Glob]
section
variable {E:Env} {L L':VSlots} {call:CallT}
theorem evO_congr {x:Operand} (h:∀ t∈opT [x],look L t=look L' t):evO L x=evO L' x:=by
 funext k
 cases x with
 | tmp t=>simp only [evO,h t (by simp [opT])]
 | const c=>rfl
 | global g=>rfl
 | func f=>rfl
theorem mem_opT {t:Nat}:∀ {xs:List Operand},t∈opT xs↔Operand.tmp t∈xs
 | []=>by simp [opT]
 | .tmp s::r=>by simp [opT,mem_opT (xs:=r)]
 | .const c::r=>by simp [opT,mem_opT (xs:=r)]
 | .global c::r=>by simp [opT,mem_opT (xs:=r)]
 | .func c::r=>by simp [opT,mem_opT (xs:=r)]
theorem evL_congr:∀ {xs:List Operand},(∀ x∈xs,evO L x=evO L' x)→evL L xs=evL L' xs
 | [],_=>rfl
 | x::r,h=>by
  funext k
  simp only [evL,h x (by simp),evL_congr (xs:=r) fun y hy=>h y (by simp [hy])]
theorem boundK_congr {x:Option Operand} {d:Nat} (h:∀ y,x=some y→evO L y=evO L' y):boundK L x d=boundK L' x d:=by
 funext k
 cases x with
 | none=>rfl
 | some y=>simp only [boundK,h y rfl]
theorem fillK_congr {ps:List (Nat × Nat)}:∀ {qs:List (Nat × Operand)},(∀ x∈qs,evO L x.2=evO L' x.2)→fillK L ps qs=fillK L' ps qs
 | [],_=>rfl
 | (f,x)::r,h=>by
  funext cells k
  simp only [fillK,h (f,x) (by simp),fillK_congr (qs:=r) fun y hy=>h y (by simp [hy])]
theorem partsK_congr {sz:Nat}:∀ {qs:List (Nat × Operand)} {i:Nat},(∀ x∈qs,evO L x.2=evO L' x.2)→partsK E L sz i qs=partsK E L' sz i qs
 | [],i,_=>rfl
 | (f,x)::r,i,h=>by
  funext rows k
  simp only [partsK_cons,h (f,x) (by simp),partsK_congr (qs:=r) fun y hy=>h y (by simp [hy])]
theorem sliceO_congr {T:Nat} {v:V} {lo hi:Option Operand} {rows:Rows} {k:V→Rows→Prop} (h1:∀ y,lo=some y→evO L y=evO L' y) (h2:∀ y,hi=some y→evO L y=evO L' y):sliceO E L T v lo hi rows k=sliceO E L' T v lo hi rows k:=by
 have e1:=fun d=>boundK_congr (d:=d) h1
 have e2:=fun d=>boundK_congr (d:=d) h2
 cases lo<;>cases hi<;>(unfold sliceO;simp only [e1,e2])
theorem xop_congr {dr:Bool} {rows:Rows} {op:Op} {k:V→Rows→Prop} (h:∀ t∈opT op.operands.toList,look L t=look L' t):xop E call dr L rows op k=xop E call dr L' rows op k:=by
 have e:∀ x∈op.operands.toList,evO L x=evO L' x:=fun x hx=>evO_congr fun t ht=>h t (by
  rw [mem_opT] at ht ⊢
  simp at ht
  subst ht;exact hx)
 cases op
 case call c =>
  have e1:evL L c.args.toList=evL L' c.args.toList:=evL_congr fun x hx=>e x (by simp [Op.operands,Call.operands];right;simpa using hx)
  unfold xop
  simp only [e1]
  cases hc:c.callee with
  | value f=>simp only [e f (by simp [Op.operands,Call.operands,hc])]
  | invoke=>rfl
  | builtin=>rfl
 case build T ps =>
  have e1:∀ pl,fillK L pl ps.toList=fillK L' pl ps.toList:=fun pl=>fillK_congr fun x hx=>e x.2 (by simp [Op.operands];exact ⟨x.1,by simpa using hx⟩)
  unfold xop
  simp only [e1]
 case buildSlice T n ps =>
  have e1:∀ sz i,partsK E L sz i ps.toList=partsK E L' sz i ps.toList:=fun sz i=>partsK_congr fun x hx=>e x.2 (by simp [Op.operands];exact ⟨x.1,by simpa using hx⟩)
  unfold xop
  simp only [e1]
 case makeFunc fn first caps =>
  have e1:evL L caps.toList=evL L' caps.toList:=evL_congr fun x hx=>e x (by simp [Op.operands];right;simpa using hx)
  cases fn<;>(unfold xop;simp only [e1])
 case slice T x lo hi mx =>
  cases mx with
  | some _=>rfl
  | none =>
   have e1:∀ v rows k,sliceO E L T v lo hi rows k=sliceO E L' T v lo hi rows k:=fun v rows k=>sliceO_congr (fun y hy=>e y (by simp [Op.operands,hy])) (fun y hy=>e y (by simp [Op.operands,hy]))
   unfold xop
   simp only [e x (by simp [Op.operands]),e1]
 case unOp op T x=>cases op<;>(unfold xop;first|rfl|simp only [e x (by simp [Op.operands])])
 case makeMap T rv=>cases rv<;>rfl
 case binOp op T x y T2 =>
  have e1:=e x (by simp [Op.operands])
  have e2:=e y (by simp [Op.operands])
  unfold xop
  dsimp only
  rw [e1]
  split
  ·rfl
  ·rw [e2]
 case lookup T mo ko b=>cases b<;>(unfold xop;first|rfl|simp only [e mo (by simp [Op.operands]),e ko (by simp [Op.operands])])
 all_goals
  simp [Op.operands] at e
  unfold xop
  first
   | rfl
   | simp only [e]
end
section
variable {E:Env} {L:VSlots}
theorem const1_ref {c:Value} {v:V} (h:const1 c=some v):noRefL [v]=true:=by
 unfold const1 at h
 split at h<;>first|(cases h;done)|(cases h;rfl)|skip
 split at h<;>first|(cases h;done)|(cases h;rfl)
theorem noRefL_cons {v:V} {r:List V} (h1:noRefL [v]=true) (h2:noRefL r=true):noRefL (v::r)=true:=by
 cases v<;>first|(simp [noRefL] at h1;done)|simpa [noRefL] using h2
theorem constL_wit:∀ (cs:List Value) (k:List V→Prop),constL cs k→∃ vs,k vs∧noRefL vs=true∧∀ k',k' vs→constL cs k'
 | [],k,h=>⟨[],h,rfl,fun k' h=>h⟩
 | c::r,k,h=>by
  unfold constL at h
  cases hc:const1 c with
  | none=>rw [hc] at h;exact h.elim
  | some x =>
   rw [hc] at h
   obtain ⟨vs,h1,h2,h3⟩:=constL_wit r _ h
   exact ⟨x::vs,h1,noRefL_cons (const1_ref hc) h2,fun k' hk=>by unfold constL;rw [hc];exact h3 _ hk⟩
theorem noRef_of1 {v:V} (h:noRefL [v]=true):noRef v=true:=by cases v<;>first|(simp [noRefL] at h;done)|rfl
theorem constK_wit {c:Value} {k:V→Prop} (h:constK c k):∃ v,k v∧noRef v=true∧∀ k',k' v→constK c k':=by
 unfold constK at h
 split at h
 ·obtain ⟨vs,h1,h2,h3⟩:=constL_wit _ _ h
  exact ⟨_,h1,h2,fun k' hk=>by unfold constK;exact h3 _ hk⟩
 ·rename_i hne
  split at h
  ·rename_i x hx
   refine ⟨x,h,noRef_of1 (const1_ref hx),fun k' hk=>?_⟩
   unfold constK
   split
   ·rename_i cs;exact absurd rfl (hne cs)
   ·rw [hx];exact hk
  ·exact h.elim
theorem evO_wit {x:Operand} {k:V→Prop} (h:evO L x k):∃ v,k v∧(∀ k',k' v→evO L x k')∧(opsRef L [x]=true→noRef v=true):=by
 cases x with
 | tmp t =>
  unfold evO at h
  simp only at h
  split at h
  ·rename_i v hv
   refine ⟨v,h,fun k' hk=>by unfold evO;simp only [hv];exact hk,fun hr=>?_⟩
   unfold opsRef at hr
   rw [hv] at hr
   simp only at hr
   split at hr
   ·assumption
   ·cases hr
  ·exact h.elim
 | const c =>
  obtain ⟨v,h1,h2,h3⟩:=constK_wit (show constK c k from h)
  exact ⟨v,h1,fun k' hk=>h3 k' hk,fun _=>h2⟩
 | global g=>exact h.elim
 | func f=>exact ⟨_,h,fun k' hk=>hk,fun _=>rfl⟩
theorem opsRef_cons {x:Operand} {r:List Operand} (h:opsRef L (x::r)=true):opsRef L [x]=true∧opsRef L r=true:=by
 cases x with
 | tmp t =>
  simp only [opsRef] at h ⊢
  cases hv:look L t with
  | none=>rw [hv] at h;cases h
  | some v =>
   rw [hv] at h
   simp only at h ⊢
   cases hn:noRef v with
   | true=>rw [hn] at h;exact ⟨rfl,h⟩
   | false=>rw [hn] at h;cases h
 | const c=>exact ⟨rfl,h⟩
 | global g=>exact ⟨rfl,h⟩
 | func f=>exact ⟨rfl,h⟩
def allRef (vs:List V):Prop:=∀ v∈vs,noRef v=true
theorem evL_wit:∀ {xs:List Operand} {k:List V→Prop},evL L xs k→∃ vs,k vs∧(∀ k',k' vs→evL L xs k')∧(opsRef L xs=true→allRef vs)
 | [],k,h=>⟨[],h,fun k' hk=>hk,fun _ v hv=>by cases hv⟩
 | x::r,k,h=>by
  obtain ⟨v,h1,h2,h3⟩:=evO_wit (x:=x) h
  obtain ⟨vs,g1,g2,g3⟩:=evL_wit h1
  refine ⟨v::vs,g1,fun k' hk=>h2 _ (g2 _ hk),fun hr=>?_⟩
  obtain ⟨r1,r2⟩:=opsRef_cons hr
  intro y hy
  rcases List.mem_cons.1 hy with rfl|hy
  ·exact h3 r1
  ·exact g3 r2 y hy
theorem fz1_free {v:V} (hv:noRefL [v]=true) {r:Rows} {k:V→Rows→Prop} (h:fz1 v r k):∃ v',k v' r∧noRefL [v']=true∧∀ r1 k',k' v' r1→fz1 v r1 k':=by
 cases v<;>simp only [fz1] at h<;>first|(simp [noRefL] at hv;done)|exact h.elim|exact ⟨_,h,rfl,fun r1 k' hk=>hk⟩|skip
 obtain ⟨α,enc,h⟩:=h
 exact ⟨_,h,rfl,fun r1 k' hk=>⟨α,enc,hk⟩⟩
theorem noRefL_split {v:V} {r:List V} (h:noRefL (v::r)=true):noRefL [v]=true∧noRefL r=true:=by
 cases v<;>first|(simp [noRefL] at h;done)|exact ⟨rfl,by simpa [noRefL] using h⟩
theorem fzL1_free:∀ {vs:List V} {r:Rows} {k:List V→Rows→Prop},noRefL vs=true→fzL1 vs r k→∃ vs',k vs' r∧∀ r1 k',k' vs' r1→fzL1 vs r1 k'
 | [],r,k,_,h=>⟨[],h,fun r1 k' hk=>hk⟩
 | v::vs,r,k,hv,h=>by
  obtain ⟨h1,h2⟩:=noRefL_split hv
  obtain ⟨v',g1,-,g2⟩:=fz1_free h1 h
  obtain ⟨vs',g3,g4⟩:=fzL1_free h2 g1
  exact ⟨v'::vs',g3,fun r1 k' hk=>g2 _ _ (g4 _ _ hk)⟩
theorem fzA_free {v:V} (hv:noRef v=true) {r:Rows} {k:V→Rows→Prop} (h:fzA v r k):∃ v',k v' r∧∀ r1 k',k' v' r1→fzA v r1 k':=by
 cases v<;>unfold fzA at h
 case agg cs=>obtain ⟨vs',g1,g2⟩:=fzL1_free hv h;exact ⟨_,g1,fun r1 k' hk=>g2 _ _ hk⟩
 case fn f cs=>obtain ⟨vs',g1,g2⟩:=fzL1_free hv h;exact ⟨_,g1,fun r1 k' hk=>g2 _ _ hk⟩
 all_goals
  obtain ⟨v',g1,-,g2⟩:=fz1_free (by simpa [noRef] using hv) h
  exact ⟨v',g1,fun r1 k' hk=>g2 _ _ hk⟩
theorem fzLA_free:∀ {vs:List V} {r:Rows} {k:List V→Rows→Prop},allRef vs→fzLA vs r k→∃ vs',k vs' r∧∀ r1 k',k' vs' r1→fzLA vs r1 k'
 | [],r,k,_,h=>⟨[],h,fun r1 k' hk=>hk⟩
 | v::vs,r,k,hv,h=>by
  obtain ⟨v',g1,g2⟩:=fzA_free (hv v (by simp)) h
  obtain ⟨vs',g3,g4⟩:=fzLA_free (fun y hy=>hv y (by simp [hy])) g1
  exact ⟨v'::vs',g3,fun r1 k' hk=>g2 _ _ (g4 _ _ hk)⟩
theorem partsK_free {sz:Nat}:∀ {ps:List (Nat × Operand)} {i:Nat} {r:Rows} {k:List V→Rows→Prop},opsRef L (ps.map (·.2))=true→partsK E L sz i ps r k→∃ vs,k vs r∧∀ r1 k',k' vs r1→partsK E L sz i ps r1 k'
 | [],i,r,k,_,h=>⟨[],h,fun r1 k' hk=>hk⟩
 | (j,x)::ps,i,r,k,hr,h=>by
  obtain ⟨r1,r2⟩:=opsRef_cons (show opsRef L (x::ps.map (·.2))=true from hr)
  rw [partsK_cons] at h
  split at h
  case h_2=>exact h.elim
  rename_i hij
  obtain ⟨v,h1,h2,h3⟩:=evO_wit (x:=x) h
  obtain ⟨v',g1,g2⟩:=fzA_free (h3 r1) h1
  split at g1
  case h_2=>exact g1.elim
  rename_i e1 e2
  obtain ⟨vs,g3,g4⟩:=partsK_free r2 g1
  refine ⟨v'::vs,g3,fun r1 k' hk=>?_⟩
  rw [partsK_cons]
  rw [hij]
  refine h2 _ (g2 _ _ ?_)
  rw [e1,e2]
  exact g4 _ _ hk
theorem lenO_free {v:V} {r r1:Rows} {k:Nat→Prop} (hv:noRef v=true) (h:lenO v r k):lenO v r1 k:=by
 cases v<;>first|(simp [noRef,noRefL] at hv;done)|exact h
theorem xop_free {n:Nat} {r r1:Rows} {o:Oper} {z:V} (hn:needsRows L o.op=false) (hl:loudB E o=false) (h:xop E (callN E n) true L r o.op fun v' r'=>v'=z∧r'=r):xop E (callN E n) true L r1 o.op fun v' r'=>v'=z∧r'=r1:=by
 have tk:∀ {T:Nat} {k k':TI→Prop},(∀ i,k i→k' i)→tiK E T k→tiK E T k':=fun {T k k'} hk h=>by
  unfold tiK at h ⊢
  split at h
  ·exact hk _ h
  ·exact h.elim
 cases ho:o.op<;>rw [ho] at hn h
 case move x=>simpa only [xop,and_true] using h
 case assign x=>simpa only [xop,and_true] using h
 case pick c x y=>simpa only [xop,and_true] using h
 case build T ps=>simpa only [xop,and_true] using h
 case nilCheck x=>simpa only [xop,and_true] using h
 case binOp op T x y T2=>simpa only [xop,and_true] using h
 case unOp op T x=>cases op<;>first|exact False.elim h|simpa only [xop,and_true] using h
 case makeFunc fn first caps=>cases fn<;>first|exact False.elim h|simpa only [xop,and_true] using h
 case fieldAddr T x f=>simpa only [xop,and_true] using h
 case field T x f=>simpa only [xop,and_true] using h
 case extract x i=>simpa only [xop,and_true] using h
 case makeSlice T n c=>simpa only [xop,and_true] using h
 case index T x j=>simpa only [xop,and_true] using h
 case load T x =>
  unfold xop at h ⊢
  obtain ⟨av,h1,h2,h3⟩:=evO_wit (x:=x) h
  refine h2 _ ?_
  have hr:=h3 (by simpa [needsRows] using hn)
  cases av<;>first|(simp [noRef,noRefL] at hr;done)|simpa only [loadO,and_true] using h1
 case indexAddr T x j =>
  unfold xop at h ⊢
  refine tk (fun i h=>?_) h
  split at h
  case h_2=>exact h.elim
  rename_i El hk
  simp only [hk]
  refine tk (fun e h=>?_) h
  obtain ⟨av,h1,h2,h3⟩:=evO_wit (x:=x) h
  refine h2 _ ?_
  have hr:=h3 (by simpa [needsRows] using hn)
  obtain ⟨jv,g1,g2,-⟩:=evO_wit (x:=j) h1
  refine g2 _ ?_
  cases jv<;>first|exact g1.elim|skip
  cases av<;>first|(simp [noRef,noRefL] at hr;done)|(simp only [idxO,and_true] at g1;done)|(simp only [idxO,and_true] at g1 ⊢;exact g1)
 case slice T x lo hi mx =>
  cases mx with
  | some _=>exact False.elim h
  | none =>
   unfold xop at h ⊢
   obtain ⟨av,h1,h2,h3⟩:=evO_wit (x:=x) h
   refine h2 _ ?_
   have hr:=h3 (by simpa [needsRows] using hn)
   cases av<;>first|(simp [noRef,noRefL] at hr;done)|simpa only [sliceO,ownTake,fz1,and_true] using h1
 case convert S D x =>
  unfold xop at h ⊢
  refine tk (fun si h=>tk (fun di h=>?_) h) h
  obtain ⟨av,h1,h2,h3⟩:=evO_wit (x:=x) h
  refine h2 _ ?_
  have hr:=h3 (by simpa [needsRows] using hn)
  have hSD:Nat.beq S D=false:=by
   cases hb:Nat.beq S D with
   | false=>rfl
   | true=>simp [loudB,ho,hb] at hl
  cases av<;>first|(simp [noRef,noRefL] at hr;done)|simpa only [elN,elsOf,hSD,and_true] using h1
 case buildSlice T m ps =>
  unfold xop at h ⊢
  refine tk (fun i h=>?_) h
  split at h
  case h_2=>exact h.elim
  rename_i El hk
  simp only [hk]
  refine tk (fun e h=>?_) h
  split at h
  case h_2=>exact h.elim
  rename_i b1 b2 b3
  obtain ⟨vs,g1,g2⟩:=partsK_free (by simpa [needsRows] using hn) h
  refine g2 _ _ ?_
  simpa only [and_true] using g1
 case call c =>
  unfold xop at h ⊢
  obtain ⟨vs,h1,h2,h3⟩:=evL_wit h
  refine h2 _ ?_
  have hr:=h3 (by simpa [needsRows] using hn)
  cases hc:c.callee with
  | invoke a b=>rw [hc] at h1;exact h1.elim
  | builtin b =>
   rw [hc] at h1
   simp only at h1 ⊢
   unfold builtO at h1 ⊢
   split at h1
   ·refine tk (fun i h=>?_) h1
    split at h
    ·exact h.elim
    ·rename_i El hk hns
     simp only [hk]
     simp only [and_true] at h ⊢
     exact lenO_free (hr _ (by simp)) h
    ·rename_i s hk
     simp only [hk]
     simpa only [and_true] using h
    ·exfalso
     have hv:=hr _ (List.mem_singleton.2 rfl)
     unfold mapK tiK at h
     split at h
     ·split at h
      ·simp [noRef,noRefL] at hv
      ·exact h
     ·exact h
    ·exact h.elim
   ·simpa only [and_true] using h1
   ·simp [loudB,ho,hc] at hl
   ·simpa only [and_true] using h1
   ·simpa only [and_true] using h1
   ·simp [loudB,ho,hc] at hl
   ·exact h1.elim
  | value f =>
   rw [hc] at h1
   simp only at h1 ⊢
   obtain ⟨fv,g1,g2,-⟩:=evO_wit (x:=f) h1
   refine g2 _ ?_
   cases f with
   | func g =>
    have hlib:∃ T,look E.lib g=some T:=by
     simp only [loudB,ho,hc] at hl
     split at hl
     ·exact ⟨_,by assumption⟩
     ·cases hl
    obtain ⟨T,hT⟩:=hlib
    have hfv:fv=.fn g []:=by
     have:=g2 (fun x=>x=fv) rfl
     exact this.symm
    subst hfv
    simp only at g1 ⊢
    have g1:=appK_ok _ _ _ g1
    rw [List.append_nil] at g1
    have ap:∀ (l:List V) (k:List V→Prop),k l→appK l [] k:=by
     intro l
     induction l with
     | nil=>intro k hk;exact hk
     | cons x r ih=>intro k hk;exact ih _ hk
    refine ap _ _ ?_
    cases n <;>
    ·unfold callN at g1 ⊢
     simp only [hT] at g1 ⊢
     obtain ⟨as',f1,f2⟩:=fzLA_free hr g1
     refine f2 _ _ ?_
     simpa only [and_true] using f1
   | tmp t=>simp [loudB,ho,hc] at hl
   | const c=>simp [loudB,ho,hc] at hl
   | global g=>exact False.elim h1
 all_goals first|exact False.elim h|(simp [loudB,ho] at hl;done)|(simp [needsRows] at hn;done)
end
end Gv
end PartV12b
section PartV12c
namespace Gv
open Go Go.RowKit Gw
variable [Glob]
def upd.{u} {α:Type u} (b:Bool) (x:Option α) (acc : α) : α :=
 match x,b with
 | some v,true=>v
 | _,_=>acc
def lastSel.{u} {α:Type u} (sel:Nat→Bool):Nat→List (Option α)→α→α
 | _,[],acc=>acc
 | k,x::r,acc=>lastSel sel (k+1) r (upd (sel k) x acc)
section
universe u
variable {α:Type u} {sel sel':Nat→Bool}
theorem lastSel_congr:∀ (xs:List (Option α)) (k:Nat) (acc : α),(∀ i x,xs[i]?=some (some x)→sel (k+i)=sel' (k+i))→lastSel sel k xs acc=lastSel sel' k xs acc
 | [],k,acc,_=>rfl
 | x::r,k,acc,h=>by
  have e:upd (sel k) x acc=upd (sel' k) x acc:=by
   cases x with
   | none=>rfl
   | some v=>rw [show sel k=sel' k from h 0 v rfl]
  unfold lastSel
  rw [e]
  exact lastSel_congr r (k+1) _ fun i y hy=>by
   have:=h (i+1) y (by simpa using hy)
   rwa [show k+1+i=k+(i+1) by omega]
theorem lastSel_none:∀ (xs:List (Option α)) (k:Nat) (acc : α),(∀ i x,xs[i]?=some (some x)→sel (k+i)=false)→lastSel sel k xs acc=acc
 | [],k,acc,_=>rfl
 | x::r,k,acc,h=>by
  have e:upd (sel k) x acc=acc:=by
   cases x with
   | none=>rfl
   | some v=>rw [show sel k=false from h 0 v rfl];rfl
  unfold lastSel
  rw [e]
  exact lastSel_none r (k+1) _ fun i y hy=>by
   have:=h (i+1) y (by simpa using hy)
   rwa [show k+1+i=k+(i+1) by omega]
theorem lastSel_last:∀ (xs:List (Option α)) (k:Nat) (acc : α) (i:Nat) (x : α),xs[i]?=some (some x)→sel (k+i)=true→(∀ j y,i < j→xs[j]?=some (some y)→sel (k+j)=false)→lastSel sel k xs acc=x
 | [],k,acc,i,x,h,_,_=>by simp at h
 | y::r,k,acc,0,x,h,hs,hn=>by
  simp at h
  subst h
  unfold lastSel
  rw [show sel k=true from hs]
  exact lastSel_none r (k+1) _ fun j y hy=>by
   have:=hn (j+1) y (by omega) (by simpa using hy)
   rwa [show k+1+j=k+(j+1) by omega]
 | y::r,k,acc,i+1,x,h,hs,hn=>by
  unfold lastSel
  exact lastSel_last r (k+1) _ i x (by simpa using h) (by rw [show k+1+i=k+(i+1) by omega];exact hs) fun j z hj hz=>by
   have:=hn (j+1) z (by omega) (by simpa using hz)
   rwa [show k+1+j=k+(j+1) by omega]
theorem lastSel_shift:∀ (xs:List (Option α)) (k:Nat) (acc : α),lastSel sel (k+1) xs acc=lastSel (fun i=>sel (i+1)) k xs acc
 | [],k,acc=>rfl
 | x::r,k,acc=>by unfold lastSel;exact lastSel_shift r (k+1) _
theorem lastSel_cases (xs:List (Option α)) (k:Nat) (acc : α):(∀ i x,xs[i]?=some (some x)→sel (k+i)=false)∨∃ i x,xs[i]?=some (some x)∧sel (k+i)=true∧∀ j y,i < j→xs[j]?=some (some y)→sel (k+j)=false:=by
 induction xs generalizing k acc with
 | nil=>left;intro i x h;simp at h
 | cons y r ih =>
  rcases ih (k+1) acc with h|⟨i,x,h1,h2,h3⟩
  ·cases y with
   | none =>
    left
    intro i x hx
    cases i with
    | zero=>simp at hx
    | succ i=>have:=h i x (by simpa using hx);rwa [show k+1+i=k+(i+1) by omega] at this
   | some v =>
    cases hs:sel k with
    | true =>
     right
     refine ⟨0,v,rfl,hs,fun j z hj hz=>?_⟩
     cases j with
     | zero=>omega
     | succ j=>have:=h j z (by simpa using hz);rwa [show k+1+j=k+(j+1) by omega] at this
    | false =>
     left
     intro i x hx
     cases i with
     | zero=>exact hs
     | succ i=>have:=h i x (by simpa using hx);rwa [show k+1+i=k+(i+1) by omega] at this
  ·right
   refine ⟨i+1,x,by simpa using h1,by rw [show k+(i+1)=k+1+i by omega];exact h2,fun j z hj hz=>?_⟩
   cases j with
   | zero=>omega
   | succ j=>have:=h3 j z (by omega) (by simpa using hz);rwa [show k+1+j=k+(j+1) by omega] at this
end
structure Item:Type 1 where
 o:Oper
 on:Bool
 L:VSlots
 v:V
 r0:Rows
 r1:Rows
def Item.wr (it:Item) (t:Nat):Option (Option V):=match it.o.dst with|some d=>(match Nat.beq d t with|true=>some (some it.v)|false=>none)|none=>none
def Item.st (E:Env) (it:Item):Option Rows:=match it.on,loudB E it.o with|true,true=>some it.r1|_,_=>none
def Refn (y x:V):Prop:=y=x∨∃ b,y=.bool b∧x=.lit b
theorem Refn.vr {m:Mem} {q:Loc} {y x:V} {u:Value} (h:Refn y x) (hv:VR m q y u):VR m q x u:=by
 rcases h with rfl|⟨b,rfl,rfl⟩
 ·exact hv
 ·cases hv;exact .lit
def GuardOK (all:List Oper) (cv:Nat→Option V) (o:Oper) (on:Bool):Prop :=
 match o.guard with
 | none=>on=true
 | some (i,want)=>∃ t y,guardT all i=some t∧cv t=some y∧((∃ b,(y=.lit b∨y=.bool b)∧on=(b == want))∨(y=.tup []∧on=false))
structure ItemOK (E:Env) (call:CallT) (all:List Oper) (cv:Nat→Option V) (r:Rows) (it:Item):Prop where
 slot:∀ t x,look it.L t=some x→∃ y,cv t=some y∧Refn y x
 guard:GuardOK all cv it.o it.on
 r0:it.r0=r
 exec:it.on=true→xop E call true it.L it.r0 it.o.op fun v' r'=>v'=it.v∧r'=it.r1
 off:it.on=false→it.v=.tup []∧it.r1=it.r0
 quiet:loudB E it.o=false→it.r1=it.r0
def Chk (E:Env) (call:CallT) (it:Item) (r:Rows):Prop:=needsRows it.L it.o.op=true→xop E call true it.L r it.o.op fun v' r'=>v'=it.v∧r'=r
structure RunOK (E:Env) (call:CallT) (ms:List Nat) (all:List Oper) (j:Nat) (cv:Nat→Option V) (r:Rows) (past:List (Nat × Rows)) (pend:List (Nat × Op × VSlots × V)) (its:List Item):Prop where
 item:∀ k it,its[k]?=some it→ItemOK E call all (fun t=>lastSel (fun i=>decide (i < k)) 0 (its.map (·.wr t)) (cv t)) (lastSel (fun i=>decide (i < k)) 0 (its.map (·.st E)) r) it
 past1:∀ k it i r',its[k]?=some it→it.on=true→loudB E it.o=false→(i,r')∈past→bitB ms i (j+k)=false→Chk E call it r'
 past2:∀ k it i it',its[k]?=some it→it.on=true→loudB E it.o=false→its[i]?=some it'→it'.on=true→loudB E it'.o=true→i < k→bitB ms (j+i) (j+k)=false→Chk E call it it'.r0
 pend1:∀ k it i op L v,its[k]?=some it→it.on=true→loudB E it.o=true→(i,op,L,v)∈pend→bitB ms i (j+k)=false→xop E call true L it.r1 op fun v' r'=>v'=v∧r'=it.r1
 pend2:∀ k it i it',its[k]?=some it→it.on=true→loudB E it.o=true→its[i]?=some it'→it'.on=true→loudB E it'.o=false→i < k→bitB ms (j+i) (j+k)=false→Chk E call it' it.r1
theorem chkPast_ok {E:Env} {call:CallT} {ms:List Nat} {j:Nat} {op:Op} {L:VSlots} {v:V}:∀ {past:List (Nat × Rows)},chkPast E call ms j op L v past→∀ i r,(i,r)∈past→bitB ms i j=false→xop E call true L r op fun v' r'=>v'=v∧r'=r
 | [],_,i,r,h,_=>by cases h
 | (i',r')::past,h,i,r,hm,hb=>by
  unfold chkPast at h
  rcases List.mem_cons.1 hm with e|hm
  ·cases e
   rw [hb] at h
   exact h.1
  ·split at h
   ·exact chkPast_ok h i r hm hb
   ·exact chkPast_ok h.2 i r hm hb
theorem chkPend_ok {E:Env} {call:CallT} {ms:List Nat} {i:Nat} {r:Rows}:∀ {pend:List (Nat × Op × VSlots × V)},chkPend E call ms i r pend→∀ j op L v,(j,op,L,v)∈pend→bitB ms j i=false→xop E call true L r op fun v' r'=>v'=v∧r'=r
 | [],_,j,op,L,v,h,_=>by cases h
 | (j',op',L',v')::pend,h,j,op,L,v,hm,hb=>by
  unfold chkPend at h
  rcases List.mem_cons.1 hm with e|hm
  ·cases e
   rw [hb] at h
   exact h.1
  ·split at h
   ·exact chkPend_ok h j op L v hm hb
   ·exact chkPend_ok h.2 j op L v hm hb
abbrev firsts (k:Nat):Nat→Bool:=fun i=>decide (i < k)
theorem firsts_succ.{u} {α:Type u} (x:Option α) (r:List (Option α)) (acc : α) (k:Nat):lastSel (firsts (k+1)) 0 (x::r) acc=lastSel (firsts k) 0 r (upd true x acc):=by
 conv=>lhs;unfold lastSel
 rw [lastSel_shift]
 have e:(fun i=>firsts (k+1) (i+1))=firsts k:=by funext i;simp [firsts]
 rw [e]
 simp [firsts]
theorem firsts_zero.{u} {α:Type u} (xs:List (Option α)) (acc : α):lastSel (firsts 0) 0 xs acc=acc:=lastSel_none _ _ _ fun i x _=>by simp [firsts]
theorem all_succ.{u} {α:Type u} (x:Option α) (r:List (Option α)) (acc : α):lastSel (fun _=>true) 0 (x::r) acc=lastSel (fun _=>true) 0 r (upd true x acc):=by
 conv=>lhs;unfold lastSel
 rw [lastSel_shift]
theorem RunOK.cons {E:Env} {call:CallT} {ms:List Nat} {all:List Oper} {j:Nat} {cv:Nat→Option V} {r:Rows} {past past':List (Nat × Rows)} {pend pend':List (Nat × Op × VSlots × V)} {it:Item} {its:List Item}
  (h0:ItemOK E call all cv r it) (h:RunOK E call ms all (j+1) (fun t=>upd true (it.wr t) (cv t)) (upd true (it.st E) r) past' pend' its)
  (p1:it.on=true→loudB E it.o=false→∀ i r',(i,r')∈past→bitB ms i j=false→Chk E call it r')
  (p2:it.on=true→loudB E it.o=true→∀ i op L v,(i,op,L,v)∈pend→bitB ms i j=false→xop E call true L it.r1 op fun v' r'=>v'=v∧r'=it.r1)
  (q1:∀ x,x∈past→x∈past') (q2:∀ x,x∈pend→x∈pend')
  (q3:it.on=true→loudB E it.o=true→(j,it.r0)∈past') (q4:it.on=true→loudB E it.o=false→needsRows it.L it.o.op=true→(j,it.o.op,it.L,it.v)∈pend') :
  RunOK E call ms all j cv r past pend (it::its):=by
 refine ⟨fun k x hk=>?_,fun k x i r' hk hon hq hm hb=>?_,fun k x i x' hk hon hq hi hon' hl hlt hb=>?_,fun k x i op L v hk hon hl hm hb=>?_,fun k x i x' hk hon hl hi hon' hq hlt hb=>?_⟩
 ·cases k with
  | zero =>
   simp at hk;subst hk
   rw [show (fun t=>lastSel (firsts 0) 0 ((it::its).map (·.wr t)) (cv t))=cv from funext fun t=>firsts_zero _ _,firsts_zero]
   exact h0
  | succ k =>
   have:=h.item k x (by simpa using hk)
   simp only [List.map_cons,firsts_succ]
   exact this
 ·cases k with
  | zero=>simp at hk;subst hk;exact p1 hon hq i r' hm (by simpa using hb)
  | succ k=>exact h.past1 k x i r' (by simpa using hk) hon hq (q1 _ hm) (by rw [show j+1+k=j+(k+1) by omega];exact hb)
 ·cases k with
  | zero=>omega
  | succ k =>
   cases i with
   | zero=>simp at hi;subst hi;exact h.past1 k x j it.r0 (by simpa using hk) hon hq (q3 hon' hl) (by rw [show j+1+k=j+(k+1) by omega];simpa using hb)
   | succ i=>exact h.past2 k x i x' (by simpa using hk) hon hq (by simpa using hi) hon' hl (by omega) (by rw [show j+1+i=j+(i+1) by omega,show j+1+k=j+(k+1) by omega];exact hb)
 ·cases k with
  | zero=>simp at hk;subst hk;exact p2 hon hl i op L v hm (by simpa using hb)
  | succ k=>exact h.pend1 k x i op L v (by simpa using hk) hon hl (q2 _ hm) (by rw [show j+1+k=j+(k+1) by omega];exact hb)
 ·cases k with
  | zero=>omega
  | succ k =>
   cases i with
   | zero =>
    simp at hi;subst hi
    intro hn
    exact h.pend1 k x j _ _ _ (by simpa using hk) hon hl (q4 hon' hq hn) (by rw [show j+1+k=j+(k+1) by omega];simpa using hb)
   | succ i=>exact h.pend2 k x i x' (by simpa using hk) hon hl (by simpa using hi) hon' hq (by omega) (by rw [show j+1+i=j+(i+1) by omega,show j+1+k=j+(k+1) by omega];exact hb)
theorem dOps_run {E:Env} {call:CallT} {ms:List Nat} {all:List Oper} {K:VSlots→Rows→Prop}:∀ (rest:List Oper) (j:Nat) (L:VSlots) (rows:Rows) (past:List (Nat × Rows)) (pend:List (Nat × Op × VSlots × V)) (cv:Nat→Option V),
  (∀ t x,look L t=some x→∃ y,cv t=some y∧Refn y x)→dOps E call ms all j rest L rows past pend K →
  ∃ its Lf,its.map (·.o)=rest∧RunOK E call ms all j cv rows past pend its∧K Lf (lastSel (fun _=>true) 0 (its.map (·.st E)) rows)∧∀ t x,look Lf t=some x→∃ y,lastSel (fun _=>true) 0 (its.map (·.wr t)) (cv t)=some y∧Refn y x
 | [],j,L,rows,past,pend,cv,hL,h=>⟨[],L,rfl,⟨fun k it hk=>by simp at hk,fun k it i r' hk=>by simp at hk,fun k it i it' hk=>by simp at hk,fun k it i op L v hk=>by simp at hk,fun k it i it' hk=>by simp at hk⟩,h,hL⟩
 | o::rest,j,L,rows,past,pend,cv,hL,h=>by
  have hput:∀ (L1:VSlots) (v:V),(∀ t x,look L1 t=some x→∃ y,cv t=some y∧Refn y x)→∀ (it:Item),it.o=o→it.v=v→∀ t x,look (putV o.dst v L1) t=some x→∃ y,upd true (it.wr t) (cv t)=some y∧Refn y x:=fun L1 v hL it ho hv t x hx=>by
   unfold Item.wr
   rw [ho,hv]
   cases hd:o.dst with
   | none=>rw [hd] at hx;exact hL t x hx
   | some d =>
    rw [hd] at hx
    simp only [putV] at hx
    unfold look at hx
    cases hb:Nat.beq d t with
    | true=>rw [hb] at hx;cases hx;exact ⟨v,by simp only [hb];rfl,.inl rfl⟩
    | false=>rw [hb] at hx;simp only [hb];exact hL t x hx
  have run:∀ L1:VSlots,(∀ t x,look L1 t=some x→∃ y,cv t=some y∧Refn y x)→GuardOK all cv o true→(match loudB E o with
   | false=>∃ v,(xop E call true L1 rows o.op fun v' r'=>v'=v∧r'=rows)∧match needsRows L1 o.op with
    | true=>chkPast E call ms j o.op L1 v past∧dOps E call ms all (j+1) rest (putV o.dst v L1) rows past ((j,o.op,L1,v)::pend) K
    | false=>dOps E call ms all (j+1) rest (putV o.dst v L1) rows past pend K
   | true=>∃ v rows',(xop E call true L1 rows o.op fun v' r'=>v'=v∧r'=rows')∧chkPend E call ms j rows' pend∧dOps E call ms all (j+1) rest (putV o.dst v L1) rows' ((j,rows)::past) pend K) →
   ∃ its Lf,its.map (·.o)=o::rest∧RunOK E call ms all j cv rows past pend its∧K Lf (lastSel (fun _=>true) 0 (its.map (·.st E)) rows)∧∀ t x,look Lf t=some x→∃ y,lastSel (fun _=>true) 0 (its.map (·.wr t)) (cv t)=some y∧Refn y x:=by
   intro L1 hL1 hg h
   cases hl:loudB E o with
   | false =>
    rw [hl] at h
    obtain ⟨v,hx,h⟩:=h
    let it:Item:=⟨o,true,L1,v,rows,rows⟩
    have hst:it.st E=none:=by simp [Item.st,it,hl]
    have h0:ItemOK E call all cv rows it:=⟨hL1,hg,rfl,fun _=>hx,(fun h=>by cases h),fun _=>rfl⟩
    cases hn:needsRows L1 o.op with
    | true =>
     rw [hn] at h
     obtain ⟨hc,h⟩:=h
     obtain ⟨its,Lf,g1,g2,g3,g4⟩:=dOps_run rest (j+1) _ rows past _ (fun t=>upd true (it.wr t) (cv t)) (hput L1 v hL1 it rfl rfl) h
     refine ⟨it::its,Lf,by simp [g1,it],RunOK.cons h0 (by rw [hst];exact g2) (fun _ _ i r' hm hb _=>chkPast_ok hc i r' hm hb) (fun _ hl'=>by rw [show it.o=o from rfl,hl] at hl';cases hl') (fun x hx=>hx) (fun x hx=>List.mem_cons_of_mem _ hx) (fun _ hl'=>by rw [show it.o=o from rfl,hl] at hl';cases hl') (fun _ _ _=>List.mem_cons_self),?_,fun t x hx=>?_⟩
     ·rw [List.map_cons,all_succ,hst];exact g3
     ·rw [List.map_cons,all_succ];exact g4 t x hx
    | false =>
     rw [hn] at h
     obtain ⟨its,Lf,g1,g2,g3,g4⟩:=dOps_run rest (j+1) _ rows past _ (fun t=>upd true (it.wr t) (cv t)) (hput L1 v hL1 it rfl rfl) h
     refine ⟨it::its,Lf,by simp [g1,it],RunOK.cons h0 (by rw [hst];exact g2) (fun _ _ i r' hm hb hn'=>by rw [show needsRows it.L it.o.op=false from hn] at hn';cases hn') (fun _ hl'=>by rw [show it.o=o from rfl,hl] at hl';cases hl') (fun x hx=>hx) (fun x hx=>hx) (fun _ hl'=>by rw [show it.o=o from rfl,hl] at hl';cases hl') (fun _ _ hn'=>by rw [show needsRows it.L it.o.op=false from hn] at hn';cases hn'),?_,fun t x hx=>?_⟩
     ·rw [List.map_cons,all_succ,hst];exact g3
     ·rw [List.map_cons,all_succ];exact g4 t x hx
   | true =>
    rw [hl] at h
    obtain ⟨v,rows',hx,hc,h⟩:=h
    let it:Item:=⟨o,true,L1,v,rows,rows'⟩
    have hst:it.st E=some rows':=by simp [Item.st,it,hl]
    have h0:ItemOK E call all cv rows it:=⟨hL1,hg,rfl,fun _=>hx,(fun h=>by cases h),fun h=>by rw [show it.o=o from rfl,hl] at h;cases h⟩
    obtain ⟨its,Lf,g1,g2,g3,g4⟩:=dOps_run rest (j+1) _ rows' _ pend (fun t=>upd true (it.wr t) (cv t)) (hput L1 v hL1 it rfl rfl) h
    refine ⟨it::its,Lf,by simp [g1,it],RunOK.cons h0 (by rw [hst];exact g2) (fun _ hl'=>by rw [show it.o=o from rfl,hl] at hl';cases hl') (fun _ _ i op L v hm hb=>chkPend_ok hc i op L v hm hb) (fun x hx=>List.mem_cons_of_mem _ hx) (fun x hx=>hx) (fun _ _=>List.mem_cons_self) (fun _ hl'=>by rw [show it.o=o from rfl,hl] at hl';cases hl'),?_,fun t x hx=>?_⟩
    ·rw [List.map_cons,all_succ,hst];exact g3
    ·rw [List.map_cons,all_succ];exact g4 t x hx
  have skip:∀ L1:VSlots,(∀ t x,look L1 t=some x→∃ y,cv t=some y∧Refn y x)→GuardOK all cv o false→dOps E call ms all (j+1) rest (putV o.dst (.tup []) L1) rows past pend K →
   ∃ its Lf,its.map (·.o)=o::rest∧RunOK E call ms all j cv rows past pend its∧K Lf (lastSel (fun _=>true) 0 (its.map (·.st E)) rows)∧∀ t x,look Lf t=some x→∃ y,lastSel (fun _=>true) 0 (its.map (·.wr t)) (cv t)=some y∧Refn y x:=by
   intro L1 hL1 hg h
   let it:Item:=⟨o,false,L1,.tup [],rows,rows⟩
   have hst:it.st E=none:=by simp [Item.st,it]
   have h0:ItemOK E call all cv rows it:=⟨hL1,hg,rfl,(fun h=>by cases h),fun _=>⟨rfl,rfl⟩,fun _=>rfl⟩
   obtain ⟨its,Lf,g1,g2,g3,g4⟩:=dOps_run rest (j+1) _ rows past pend (fun t=>upd true (it.wr t) (cv t)) (hput L1 _ hL1 it rfl rfl) h
   refine ⟨it::its,Lf,by simp [g1,it],RunOK.cons h0 (by rw [hst];exact g2) (fun h=>by cases h) (fun h=>by cases h) (fun x hx=>hx) (fun x hx=>hx) (fun h=>by cases h) (fun h=>by cases h),?_,fun t x hx=>?_⟩
   ·rw [List.map_cons,all_succ,hst];exact g3
   ·rw [List.map_cons,all_succ];exact g4 t x hx
  have hlit:∀ (t:Nat) (c:Bool),look L t=some (.bool c)→∀ s x,look ((t,.lit c)::L) s=some x→∃ y,cv s=some y∧Refn y x:=fun t c hc s x hx=>by
   unfold look at hx
   split at hx
   ·rename_i e
    have e:=Nat.eq_of_beq_eq_true e
    subst e
    cases hx
    obtain ⟨y,h1,h2⟩:=hL t _ hc
    rcases h2 with rfl|⟨b,rfl,h2⟩
    ·exact ⟨_,h1,.inr ⟨c,rfl,rfl⟩⟩
    ·cases h2
   ·exact hL s x hx
  have gd:∀ (i t:Nat) (want:Bool) (x:V),o.guard=some (i,want)→guardT all i=some t→look L t=some x→(∀ b,x=.lit b∨x=.bool b→GuardOK all cv o (b == want))∧(x=.tup []→GuardOK all cv o false):=fun i t want x h1 h2 h3=>by
   obtain ⟨y,h4,h5⟩:=hL t x h3
   refine ⟨fun b hb=>?_,fun hb=>?_⟩
   ·unfold GuardOK
    rw [h1]
    refine ⟨t,y,h2,h4,.inl ⟨b,?_,rfl⟩⟩
    rcases h5 with rfl|⟨b',rfl,rfl⟩
    ·exact hb
    ·rcases hb with hb|hb
     ·cases hb;exact .inr rfl
     ·cases hb
   ·unfold GuardOK
    rw [h1]
    subst hb
    rcases h5 with rfl|⟨b',rfl,h5⟩
    ·exact ⟨t,_,h2,h4,.inr ⟨rfl,rfl⟩⟩
    ·cases h5
  unfold dOps at h
  simp only at h
  split at h
  ·rename_i hg
   exact run L hL (by unfold GuardOK;rw [hg]) h
  ·rename_i i want hg
   split at h
   ·exact h.elim
   rename_i t ht
   split at h
   ·rename_i b hb
    have g:=(gd i t want _ hg ht hb).1 b (.inl rfl)
    cases b<;>cases want<;>first|exact run L hL g h|exact skip L hL g h
   ·rename_i c hb
    have h:=h c rfl
    have g:=(gd i t want _ hg ht hb).1 c (.inr rfl)
    have hL1:=hlit t c hb
    cases c<;>cases want<;>first|exact run _ hL1 g h|exact skip _ hL1 g h
   ·rename_i hb
    exact skip L hL ((gd i t want _ hg ht hb).2 rfl) h
   ·exact h.elim
end Gv
end PartV12c
section PartV12f
namespace Gv
open Go Go.RowKit Gw
variable [Glob]
def noDst (F:Nat→Prop) (o:Oper):Prop:=∀ d,o.dst=some d→¬F d
def Fr (F:Nat→Prop) (x:Nat→Value) (a:Act):Prop:=∀ t,F t→a.tmps.getD t undef=x t
section
variable {P:Program} {ops:Array Oper} {Q Q':Exit→Act→World→Prop} {F:Nat→Prop} {x:Nat→Value}
theorem Fr.put {a:Act} (h:Fr F x a) {o:Oper} (ho:noDst F o) (v:Value):Fr F x (a.put o.dst v):=fun t ht=>by
 cases hd:o.dst with
 | none=>exact h t ht
 | some d =>
  have hne:d≠t:=fun e=>ho d hd (e ▸ ht)
  have:=h t ht
  simp only [Act.put]
  rw [Array.getD_eq_getD_getElem?] at this ⊢
  rw [Array.getElem?_setIfInBounds_ne hne]
  exact this
structure Out (F:Nat→Prop) (x:Nat→Value) (Q Q':Exit→Act→World→Prop):Prop where
 norm:∀ a w,Fr F x a→Q .normal a w→Q' .normal a w
 panic:∀ c a w,Q (.panic c) a w→Q' (.panic c) a w
 lets:LetsOut Q→LetsOut Q'
def NormQ (N:Act→World→Prop):Exit→Act→World→Prop
 | .normal,a,w=>N a w
 | _,_,_=>False
theorem NormQ.out {N:Act→World→Prop} (h:∀ a w,Fr F x a→N a w→Q' .normal a w):Out F x (NormQ N) Q':=⟨fun a w ha hn=>h a w ha hn,fun c a w h=>h.elim,fun ⟨a,w,h⟩=>h.elim⟩
theorem frame_wp (H:Out F x Q Q') {o:Oper} (ho:noDst F o) {a:Act} {w:World} {K K':Act→World→Prop} (ha:Fr F x a) (h:∀ a w, Fr F x a→K a w→K' a w)
  (hh:o.wp P a w K Q):o.wp P a w K' Q':=by
 unfold Oper.wp at *
 generalize (execOp a.eval o).run P w=r at *
 cases r with
 | ok n w' =>
  cases n<;>simp only [Oper.upon] at hh ⊢ <;>
   first
    | exact h _ _ (ha.put ho _) hh
    | exact h _ _ (Fr.put (a:={ a with defers:=_::a.defers }) (fun t ht=>ha t ht) ho _) hh
    | exact Calls.mono hh (fun e w'' he=>by cases e<;>first|exact h _ _ (ha.put ho _) he|exact H.panic _ _ _ he|exact H.lets he)
    | exact Rows.mono hh (fun _ _ he=>h _ _ (ha.put ho _) he)
 | halt y w'=>cases y<;>simp only [Oper.upon] at hh ⊢<;>first|exact H.panic _ _ _ hh|exact hh
theorem frame_list (H:Out F x Q Q'):∀ (l:List Oper) (a:Act) (w:World),(∀ o∈l,noDst F o)→Fr F x a→wpList P ops Q l a w→wpList P ops Q' l a w
 | [],a,w,hd,ha,h=>H.norm _ _ ha h
 | o::l,a,w,hd,ha,h=>by
  have ho:=hd o (by simp)
  have hl:∀ o∈l,noDst F o:=fun o h=>hd o (by simp [h])
  unfold wpList at h ⊢
  split
  ·rename_i hw
   simp only [hw,if_true] at h
   rcases h with h|h
   ·exact .inl (frame_wp H ho ha (fun a w ha h=>frame_list H l a w hl ha h) h)
   ·exact .inr ⟨h.1,H.lets h.2⟩
  ·rename_i hw
   simp only [hw] at h
   exact frame_list H l _ w hl (ha.put ho _) h
theorem frame_any (H:Out F x Q Q') (hd:∀ (i:Nat) o,ops[i]?=some o→noDst F o):∀ (f:Nat) (ls:Array Bool) (a:Act) (w:World),Fr F x a→wpAny P .any ops Q f ls a w→wpAny P .any ops Q' f ls a w
 | 0,ls,a,w,ha,h=>⟨h.1,H.norm _ _ ha h.2⟩
 | f+1,ls,a,w,ha,h=>⟨fun e=>H.norm _ _ ha (h.1 e),fun i hi=>by
  have:=h.2 i hi
  unfold wpOp at this ⊢
  split
  ·rename_i hn
   simp only [hn] at this
   exact frame_any H hd f _ a w ha this
  ·rename_i o ho
   simp only [ho] at this
   split
   ·rename_i hw
    simp only [hw,if_true] at this
    rcases this with h|h
    ·exact .inl (frame_wp H (hd i o ho) ha (fun a w ha h=>frame_any H hd f _ a w ha h) h)
    ·exact .inr ⟨h.1,H.lets h.2⟩
   ·rename_i hw
    simp only [hw] at this
    exact frame_any H hd f _ _ w (ha.put (hd i o ho) _) this⟩
end
end Gv
end PartV12f
section PartV12d
namespace Gv
open Go Go.RowKit Gw
variable [Glob]
section
variable {E:Env} {ops:Array Oper} {ms:List Nat}
theorem testBit_fold {ms:List Nat} {i:Nat}:∀ (es:List Edge) (s:Nat),(es.foldl (fun s e=>if Region.binds .any e then s ||| 2 ^ e.on ||| (nth ms e.on).getD 0 else s) s).testBit i=true→s.testBit i=true∨∃ e∈es,Region.binds .any e=true∧(e.on=i∨bitB ms i e.on=true)
 | [],s,h=>.inl h
 | e::es,s,h=>by
  rw [List.foldl_cons] at h
  rcases testBit_fold es _ h with h|⟨e',h1,h2,h3⟩
  ·by_cases hb:Region.binds .any e=true
   ·rw [if_pos hb,Nat.testBit_or,Nat.testBit_or,Bool.or_eq_true,Bool.or_eq_true] at h
    rcases h with (h|h)|h
    ·exact .inl h
    ·rw [Nat.testBit_two_pow] at h
     exact .inr ⟨e,by simp,hb,.inl (by simpa using h)⟩
    ·refine .inr ⟨e,by simp,hb,.inr ?_⟩
     unfold bitB
     cases hn:nth ms e.on with
     | none=>rw [hn] at h;simp at h
     | some m=>rw [hn] at h;simpa using h
   ·rw [if_neg hb] at h;exact .inl h
  ·exact .inr ⟨e',by simp [h1],h2,h3⟩
structure DrawOK (E:Env) (ops:Array Oper) (ms:List Nat):Prop where
 back:∀ (j:Nat) o,ops[j]?=some o→∀ e∈o.after,Region.binds .any e=true→e.on < j
 mask:∀ (i j:Nat),bitB ms i j=true→∃ o,ops[j]?=some o∧∃ e∈o.after,Region.binds .any e=true∧(e.on=i∨bitB ms i e.on=true)
 apart:∀ (i j:Nat) x o,i < j→ops[i]?=some x→ops[j]?=some o→(apartB ops.toList x o=true∧(loudB E x && loudB E o)=false)∨bitB ms i j=true
theorem drawB_ok (h:drawB E ops.toList ms=true):DrawOK E ops ms:=by
 unfold drawB at h
 rw [Bool.and_eq_true] at h
 have hlen:=Nat.eq_of_beq_eq_true h.1
 have hall:=fun (j:Nat) (o:Oper) (ho:ops[j]?=some o)=>by
  have hj:j < ops.toList.length:=by have:=(Array.getElem?_eq_some_iff.1 ho).1;simpa using this
  have:=List.all_eq_true.1 h.2 j (List.mem_range.2 hj)
  rw [nth_eq,Array.getElem?_toList,ho] at this
  simp only [Bool.and_eq_true] at this
  exact this
 refine ⟨fun j o ho e he hb=>?_,fun i j hb=>?_,fun i j x o hij hx ho=>?_⟩
 ·have:=List.all_eq_true.1 (hall j o ho).1.1 e (by simpa using he)
  rw [hb] at this
  simpa [Nat.blt_eq] using this
 ·unfold bitB at hb
  split at hb
  ·rename_i m hm
   rw [nth_eq] at hm
   have hj:j < ops.toList.length:=by rw [←hlen];exact (List.getElem?_eq_some_iff.1 hm).1
   have ho:ops[j]?=some (ops[j]'(by simpa using hj)):=by simp
   have e:=Nat.eq_of_beq_eq_true (hall j _ ho).1.2
   rw [nth_eq,hm,Option.getD_some] at e
   rw [e] at hb
   unfold maskOf at hb
   rcases testBit_fold _ _ hb with h|⟨e',h1,h2,h3⟩
   ·simp at h
   ·exact ⟨_,ho,e',by simpa using h1,h2,h3⟩
  ·cases hb
 ·have:=List.all_eq_true.1 (hall j o ho).2 i (List.mem_range.2 hij)
  rw [nth_eq,Array.getElem?_toList,hx] at this
  simp only [Bool.or_eq_true,Bool.and_eq_true,Bool.not_eq_true'] at this
  exact this
def Closed (ops:Array Oper) (ls:Array Bool):Prop:=∀ (j:Nat) o,ops[j]?=some o→ls.getD j false=true→∀ e∈o.after,Region.binds .any e=true→ls.getD e.on false=true
theorem Closed.mask {ls:Array Bool} (D:DrawOK E ops ms) (C:Closed ops ls):∀ (j i:Nat),ls.getD j false=true→bitB ms i j=true→ls.getD i false=true:=by
 intro j
 induction j using Nat.strongRecOn with
 | _ j ih =>
  intro i hj hb
  obtain ⟨o,ho,e,he,hbd,h⟩:=D.mask i j hb
  have h1:=C j o ho hj e he hbd
  rcases h with rfl|h
  ·exact h1
  ·exact ih e.on (D.back j o ho e he hbd) i h1 h
theorem Closed.ready {ls:Array Bool} (D:DrawOK E ops ms) (C:Closed ops ls) {j i:Nat} {o:Oper} (ho:ops[j]?=some o) (hr:∀ e∈o.after,Region.binds .any e=true→ls.getD e.on false=true) (hb:bitB ms i j=true):ls.getD i false=true:=by
 obtain ⟨o',ho',e,he,hbd,h⟩:=D.mask i j hb
 rw [ho] at ho';cases ho'
 have h1:=hr e he hbd
 rcases h with rfl|h
 ·exact h1
 ·exact C.mask D e.on i h1 h
theorem Closed.set {ls:Array Bool} (C:Closed ops ls) {i:Nat} {o:Oper} (ho:ops[i]?=some o) (hr:∀ e∈o.after,Region.binds .any e=true→ls.getD e.on false=true):Closed ops (ls.setIfInBounds i true):=fun j o' ho' hj e he hb=>by
 by_cases hij:i=j
 ·subst hij;rw [ho] at ho';cases ho';exact getD_set_true (hr e he hb)
 ·rw [getD_set_ne false hij] at hj
  exact getD_set_true (C j o' ho' hj e he hb)
theorem memN_ok:∀ {t:Nat} {l:List Nat},t∈l→memN t l=true
 | t,[],h=>by cases h
 | t,x::r,h=>by
  unfold memN
  cases hb:Nat.beq x t with
  | true=>rfl
  | false =>
   rcases List.mem_cons.1 h with rfl|h
   ·simp at hb
   ·exact memN_ok h
def restr (L:VSlots):List Nat→VSlots
 | []=>[]
 | t::r=>match look L t with|some v=>(t,v)::restr L r|none=>restr L r
theorem restr_look (L:VSlots):∀ (ts:List Nat) (t:Nat) (v:V),look (restr L ts) t=some v→t∈ts∧look L t=some v
 | [],t,v,h=>by simp [restr,look] at h
 | s::r,t,v,h=>by
  unfold restr at h
  split at h
  ·rename_i u hu
   unfold look at h
   split at h
   ·rename_i e
    have:=Nat.eq_of_beq_eq_true e
    subst this;cases h
    exact ⟨by simp,hu⟩
   ·obtain ⟨h1,h2⟩:=restr_look L r t v h;exact ⟨by simp [h1],h2⟩
  ·obtain ⟨h1,h2⟩:=restr_look L r t v h;exact ⟨by simp [h1],h2⟩
theorem look_restr (L:VSlots):∀ (ts:List Nat) (t:Nat),t∈ts→look L t=look (restr L ts) t
 | [],t,h=>by cases h
 | s::r,t,h=>by
  unfold restr
  by_cases hst:s=t
  ·subst hst
   split
   ·rename_i u hu;simp [look,hu]
   ·rename_i hu
    by_cases hm:s∈r
    ·exact look_restr L r s hm
    ·rw [hu]
     cases hl:look (restr L r) s with
     | none=>rfl
     | some v=>exact absurd (restr_look L r s v hl).1 hm
  ·have ht:t∈r := by
    rcases List.mem_cons.1 h with rfl|h
    ·exact absurd rfl hst
    ·exact h
   split
   ·rename_i u hu
    have hst':Nat.beq s t=false:=by
     cases hb:Nat.beq s t with
     | false=>rfl
     | true=>exact absurd (Nat.eq_of_beq_eq_true hb) hst
    have e:look ((s,u)::restr L r) t=look (restr L r) t:=by simp [look,hst']
    rw [e]
    exact look_restr L r t ht
   ·exact look_restr L r t ht
end
section
variable {w0:Start} {m0 mb:Mem} {qb:Loc} {n:Nat} {E:Env} {ops:Array Oper} {ms:List Nat} {L0:VSlots} {rows:Rows} {its:List Item} {N:Nat}
theorem getD_both' {listed:Array Bool} {i:Nat} (h:listed.getD i true=false):listed.getD i false=false:=by
 rcases Nat.lt_or_ge i listed.size with h'|h'
 ·simp [h'] at h ⊢;exact h
 ·simp [Array.getElem?_eq_none h'] at h
abbrev selB (ls:Array Bool):Nat→Bool:=fun i=>ls.getD i false
structure DInv (w0:Start) (m0 mb:Mem) (qb:Loc) (n:Nat) (E:Env) (ops:Array Oper) (L0:VSlots) (rows:Rows) (its:List Item) (ls:Array Bool) (a:Act) (w:World):Prop where
 size:ls.size=ops.size
 closed:Closed ops ls
 ex:∃ R m q,Cf w0 m0 (lastSel (selB ls) 0 (its.map (·.st E)) rows) R m q w∧(∀ t y,lastSel (selB ls) 0 (its.map (·.wr t)) (look L0 t)=some y→VR m q y (a.tmps.getD t undef))∧mb.Le m∧qb.Le q
 tmps:a.tmps.size=n
 defers:a.defers=[]
theorem sel_congr.{u} {α:Type u} {xs:List (Option α)} {acc : α} {ls:Array Bool} {i:Nat} (h:∀ k x,xs[k]?=some (some x)→(k < i→ls.getD k false=true)∧(i≤k→ls.getD k false=false)):lastSel (selB ls) 0 xs acc=lastSel (firsts i) 0 xs acc :=
 lastSel_congr _ _ _ fun k x hx=>by
  have:=h k x hx
  simp only [Nat.zero_add,selB,firsts]
  rcases Nat.lt_or_ge k i with h'|h'
  ·rw [this.1 h'];simp [h']
  ·rw [this.2 h'];simp;omega
theorem wr_some {it:Item} {t:Nat} {x:Option V} (h:it.wr t=some x):it.o.dst=some t∧x=some it.v:=by
 unfold Item.wr at h
 split at h
 ·rename_i d hd
  split at h
  ·rename_i e
   have:=Nat.eq_of_beq_eq_true e
   subst this;cases h;exact ⟨hd,rfl⟩
  ·cases h
 ·cases h
theorem wr_of {it:Item} {t:Nat} (h:it.o.dst=some t):it.wr t=some (some it.v):=by
 unfold Item.wr
 rw [h]
 simp
theorem st_some {it:Item} {r:Rows} (h:it.st E=some r):it.on=true∧loudB E it.o=true∧r=it.r1:=by
 unfold Item.st at h
 split at h
 ·rename_i h1 h2;cases h;exact ⟨h1,h2,rfl⟩
 ·cases h
theorem st_of {it:Item} (h1:it.on=true) (h2:loudB E it.o=true):it.st E=some it.r1:=by unfold Item.st;rw [h1,h2]
theorem map_some {α β:Type _} {f : α→β} {l:List α} {k:Nat} {x : β} (h:(l.map f)[k]?=some x):∃ it,l[k]?=some it∧f it=x:=by
 simpa using h
theorem draw_step (H:EnvOK E) {nn:Nat} (HC:CallOK E (callN E nn)) (D:DrawOK E ops ms) (hm:its.map (·.o)=ops.toList) (RO:RunOK E (callN E nn) ms ops.toList 0 (fun t => look L0 t) rows [] [] its) (hd:dstsL n ops.toList=true) {Q:Exit→Act→World→Prop}
  {ls:Array Bool} {a:Act} {w:World} (I:DInv w0 m0 mb qb n E ops L0 rows its ls a w) {i:Nat} (hi:i∈Region.ready .any ops ls) :
  wpOp E.P ops Q i (fun a' w'=>DInv w0 m0 mb qb n E ops L0 rows its (ls.setIfInBounds i true) a' w') a w:=by
 obtain ⟨hun,o,ho,hr⟩:=mem_ready.1 hi
 have hunF:ls.getD i false=false:=getD_both' hun
 have op_of:∀ (k:Nat) (it:Item),its[k]?=some it→ops[k]?=some it.o:=fun k it hk=>by
  have:(its.map (·.o))[k]?=some it.o:=by simp [hk]
  rw [hm] at this
  simpa using this
 obtain ⟨it,hit,hio⟩:∃ it,its[i]?=some it∧it.o=o:=by
  have:(its.map (·.o))[i]?=some o:=by rw [hm];simpa using ho
  exact map_some this
 have hin:i < ls.size:=by
  rcases Nat.lt_or_ge i ls.size with h|h
  ·exact h
  ·simp [Array.getElem?_eq_none h] at hun
 have hset:(ls.setIfInBounds i true).getD i false=true:=by simp [hin]
 have hne:∀ k,k≠i→(ls.setIfInBounds i true).getD k false=ls.getD k false:=fun k hk=>getD_set_ne false (Ne.symm hk)
 have ahead:∀ k,bitB ms k i=true→ls.getD k false=true:=fun k hb=>I.closed.ready D ho hr hb
 have behind:∀ k,bitB ms i k=true→ls.getD k false=false:=fun k hb=>by
  cases h:ls.getD k false with
  | false=>rfl
  | true=>have:=I.closed.mask D k i h hb;rw [hunF] at this;cases this
 have writers:∀ t,(t∈namesO ops.toList o∨o.dst=some t)→∀ k it',k≠i→its[k]?=some it'→it'.o.dst=some t→(k < i→ls.getD k false=true)∧(i≤k→ls.getD k false=false):=fun t ht k it' hk hk' hdk=>by
  have hok:=op_of k it' hk'
  refine ⟨fun hlt=>?_,fun hge=>?_⟩
  ·rcases D.apart k i it'.o o hlt hok ho with ⟨h1,-⟩|hb
   ·exfalso
    unfold apartB at h1
    rw [hdk,Bool.and_eq_true] at h1
    rcases ht with ht|ht
    ·simp [memN_ok ht] at h1
    ·rw [ht] at h1;simp at h1
   ·exact ahead k hb
  ·rcases D.apart i k o it'.o (by omega) ho hok with ⟨h1,-⟩|hb
   ·exfalso
    unfold apartB at h1
    rw [hdk,Bool.and_eq_true] at h1
    rcases ht with ht|ht
    ·simp [memN_ok ht] at h1
    ·rw [ht] at h1;simp at h1
   ·exact behind k hb
 obtain ⟨R,m,q,C,hslot,hmb,hqb⟩:=I.ex
 have HIo:=RO.item i it hit
 have hcv:∀ t,t∈namesO ops.toList o→lastSel (selB ls) 0 (its.map (·.wr t)) (look L0 t)=lastSel (firsts i) 0 (its.map (·.wr t)) (look L0 t):=fun t ht=>sel_congr fun k x hx=>by
  obtain ⟨it',h1,h2⟩:=map_some hx
  obtain ⟨h3,-⟩:=wr_some h2
  by_cases hk:k=i
  ·subst hk;exact ⟨fun h=>by omega,fun _=>hunF⟩
  ·exact writers t (.inl ht) k it' hk h1 h3
 have hdst:∀ t,o.dst=some t→t < n:=fun t ht=>by
  have key:∀ (l:List Oper),dstsL n l=true→o∈l→t < n:=by
   intro l
   induction l with
   | nil=>intro _ h;cases h
   | cons x r ih =>
    intro h hm
    unfold dstsL at h
    rw [Bool.and_eq_true] at h
    rcases List.mem_cons.1 hm with rfl|hm
    ·rw [ht] at h;simpa [Nat.blt_eq] using h.1
    ·exact ih h.2 hm
  exact key _ hd (by have:=List.mem_of_getElem? (l:=ops.toList) (i:=i) (a:=o) (by simpa using ho);exact this)
 have fin:∀ (u:Value) (w':World) (R' m':Mem) (q':Loc),Cf w0 m0 (lastSel (selB (ls.setIfInBounds i true)) 0 (its.map (·.st E)) rows) R' m' q' w'→m.Le m'→q.Le q'→VR m' q' it.v u→DInv w0 m0 mb qb n E ops L0 rows its (ls.setIfInBounds i true) (a.put o.dst u) w':=by
  intro u w' R' m' q' C' hm' hq' hv
  refine ⟨by simp [I.size],I.closed.set ho hr,⟨R',m',q',C',fun t y hy=>?_,hmb.trans hm',hqb.trans hq'⟩,?_,?_⟩
  ·by_cases ht:o.dst=some t
   ·have e:lastSel (selB (ls.setIfInBounds i true)) 0 (its.map (·.wr t)) (look L0 t)=some it.v := lastSel_last _ _ _ i _ (by simp [hit, wr_of (show it.o.dst=some t by rw [hio];exact ht)]) (by simpa [selB] using hset) fun k y hk hy => by
     obtain ⟨it',h1,h2⟩:=map_some hy
     obtain ⟨h3,-⟩:=wr_some h2
     simp only [Nat.zero_add,selB]
     rw [hne k (by omega)]
     exact (writers t (.inr ht) k it' (by omega) h1 h3).2 (by omega)
    rw [e] at hy;cases hy
    rw [ht]
    simpa [Act.put,Array.getD_eq_getD_getElem?,I.tmps,hdst t ht] using hv
   ·have e:lastSel (selB (ls.setIfInBounds i true)) 0 (its.map (·.wr t)) (look L0 t)=lastSel (selB ls) 0 (its.map (·.wr t)) (look L0 t) := lastSel_congr _ _ _ fun k x hx => by
     obtain ⟨it',h1,h2⟩:=map_some hx
     obtain ⟨h3,-⟩:=wr_some h2
     simp only [Nat.zero_add,selB]
     refine hne k fun hk=>?_
     subst hk
     rw [hit] at h1;cases h1
     rw [hio] at h3
     exact ht h3
    rw [e] at hy
    have:=(hslot t y hy).up hm' hq'
    cases hdo:o.dst with
    | none=>exact this
    | some d =>
     have hdt:d≠t:=fun e=>by subst e;exact ht hdo
     simpa [Act.put,Array.getD_eq_getD_getElem?,hdt] using this
  ·cases o.dst<;>simp [Act.put,I.tmps]
  ·cases o.dst<;>simp [Act.put,I.defers]
 have stNone:it.st E=none→lastSel (selB (ls.setIfInBounds i true)) 0 (its.map (·.st E)) rows=lastSel (selB ls) 0 (its.map (·.st E)) rows:=fun hst=>lastSel_congr _ _ _ fun k x hx=>by
  obtain ⟨it',h1,h2⟩:=map_some hx
  simp only [Nat.zero_add,selB]
  refine hne k fun hk=>?_
  subst hk
  rw [hit] at h1;cases h1
  rw [hst] at h2;cases h2
 have hw:Region.wanted o (yielded ops a.tmps)=it.on:=by
  have hg:=HIo.guard
  rw [hio] at hg
  unfold GuardOK at hg
  cases hgo:o.guard with
  | none=>rw [hgo] at hg;simp only at hg;rw [hg];simp [Region.wanted,hgo]
  | some p =>
   obtain ⟨g,want⟩:=p
   rw [hgo] at hg
   obtain ⟨t,y,h1,h2,h3⟩:=hg
   have ht:t∈namesO ops.toList o:=by unfold namesO;rw [hgo];simp [h1]
   replace h2:lastSel (selB ls) 0 (its.map (·.wr t)) (look L0 t)=some y:=(hcv t ht).trans h2
   have hv:=hslot t y h2
   rcases h3 with ⟨b,hb,he⟩|⟨hb,he⟩
   ·have hu:a.tmps.getD t undef=.bool b := by
     generalize a.tmps.getD t undef=u at hv
     rcases hb with rfl|rfl<;>cases hv<;>rfl
    rw [guard_on hgo h1 hu,he]
   ·subst hb
    have hu:a.tmps.getD t undef=undef:=by
     generalize a.tmps.getD t undef=u at hv
     cases hv with
     | @tup _ _ us hl _ =>
      have:us=[]:=List.length_eq_zero_iff.1 (by simpa using hl.symm)
      subst this;rfl
    rw [guard_un hgo h1 hu,he]
 unfold wpOp
 simp only [ho]
 rw [hw]
 cases hon:it.on with
 | false =>
  simp only [Bool.false_eq_true,if_false]
  have hoff:=HIo.off hon
  refine fin undef w R m q ?_ (Mem.Le.refl m) (Loc.Le.refl q) (by rw [hoff.1];exact vr_undef)
  rw [stNone (by unfold Item.st;rw [hon])]
  exact C
 | true =>
  simp only [if_true]
  left
  have hx:xop E (callN E nn) true it.L (lastSel (selB ls) 0 (its.map (·.st E)) rows) o.op fun v' r'=>v'=it.v∧r'=lastSel (selB (ls.setIfInBounds i true)) 0 (its.map (·.st E)) rows:=by
   have hex:=HIo.exec hon
   rw [hio] at hex
   cases hl:loudB E o with
   | true =>
    have e1:lastSel (selB ls) 0 (its.map (·.st E)) rows=it.r0:=by
     rw [HIo.r0]
     refine sel_congr fun k x hx=>?_
     obtain ⟨it',h1,h2⟩:=map_some hx
     obtain ⟨h3,h4,-⟩:=st_some h2
     by_cases hk:k=i
     ·subst hk;exact ⟨fun h=>by omega,fun _=>hunF⟩
     ·refine ⟨fun hlt=>?_,fun hge=>?_⟩
      ·rcases D.apart k i it'.o o hlt (op_of k it' h1) ho with ⟨-,h5⟩|hb
       ·rw [h4,hl] at h5;cases h5
       ·exact ahead k hb
      ·rcases D.apart i k o it'.o (by omega) ho (op_of k it' h1) with ⟨-,h5⟩|hb
       ·rw [h4,hl] at h5;cases h5
       ·exact behind k hb
    have e2:lastSel (selB (ls.setIfInBounds i true)) 0 (its.map (·.st E)) rows=it.r1:=lastSel_last _ _ _ i _ (by simp [hit,st_of hon (show loudB E it.o=true by rw [hio];exact hl)]) (by simpa [selB] using hset) fun k y hk hy=>by
     obtain ⟨it',h1,h2⟩:=map_some hy
     obtain ⟨h3,h4,-⟩:=st_some h2
     simp only [Nat.zero_add,selB]
     rw [hne k (by omega)]
     rcases D.apart i k o it'.o (by omega) ho (op_of k it' h1) with ⟨-,h5⟩|hb
     ·rw [h4,hl] at h5;cases h5
     ·exact behind k hb
    rw [e1,e2]
    exact hex
   | false =>
    have hst:it.st E=none:=by unfold Item.st;rw [hon,hio,hl]
    rw [stNone hst]
    have hq:=HIo.quiet (by rw [hio];exact hl)
    rw [hq] at hex
    cases hn:needsRows it.L o.op with
    | false=>exact xop_free hn hl hex
    | true =>
     have hn':needsRows it.L it.o.op=true:=by rw [hio];exact hn
     have hlo:loudB E it.o=false:=by rw [hio];exact hl
     have chain:∀ k k' it1 it2,k < k'→its[k]?=some it1→its[k']?=some it2→it1.st E≠none→it2.st E≠none→ls.getD k' false=true→ls.getD k false=true:=fun k k' it1 it2 hlt h1 h2 s1 s2 hk'=>by
      obtain ⟨r1,e1⟩:=Option.ne_none_iff_exists'.1 s1
      obtain ⟨r2,e2⟩:=Option.ne_none_iff_exists'.1 s2
      obtain ⟨-,l1,-⟩:=st_some e1
      obtain ⟨-,l2,-⟩:=st_some e2
      rcases D.apart k k' it1.o it2.o hlt (op_of k it1 h1) (op_of k' it2 h2) with ⟨-,h5⟩|hb
      ·rw [l1,l2] at h5;cases h5
      ·exact I.closed.mask D k' k hk' hb
     by_cases hex1:∃ k it',k < i∧its[k]?=some it'∧it'.st E≠none∧ls.getD k false=false
     ·
      have hmin:∃ k it',(k < i∧its[k]?=some it'∧it'.st E≠none∧ls.getD k false=false)∧∀ k' it2,k' < k→its[k']?=some it2→it2.st E≠none→ls.getD k' false=true:=by
       obtain ⟨k,it',hk⟩:=hex1
       induction k using Nat.strongRecOn generalizing it' with
       | _ k ih =>
        by_cases hall:∀ k' it2,k' < k→its[k']?=some it2→it2.st E≠none→ls.getD k' false=true
        ·exact ⟨k,it',hk,hall⟩
        ·simp only [Classical.not_forall] at hall
         obtain ⟨k',it2,h1,h2,h3,h4⟩:=hall
         exact ih k' h1 it2 ⟨by omega,h2,h3,by simpa using h4⟩
      obtain ⟨k,it',⟨h1,h2,h3,h4⟩,h5⟩:=hmin
      obtain ⟨r',e'⟩:=Option.ne_none_iff_exists'.1 h3
      obtain ⟨l1,l2,-⟩:=st_some e'
      have hb:bitB ms k i=false:=by
       cases hb:bitB ms k i with
       | false=>rfl
       | true=>have:=ahead k hb;rw [h4] at this;cases this
      have e1:lastSel (selB ls) 0 (its.map (·.st E)) rows=it'.r0:=by
       rw [(RO.item k it' h2).r0]
       refine sel_congr fun k' x hx=>?_
       obtain ⟨it2,g1,g2⟩:=map_some hx
       refine ⟨fun hlt=>h5 k' it2 hlt g1 (by rw [g2];simp),fun hge=>?_⟩
       by_cases hkk:k'=k
       ·subst hkk;exact h4
       ·cases hs:ls.getD k' false with
        | false=>rfl
        | true=>have:=chain k k' it' it2 (by omega) h2 g1 h3 (by rw [g2];simp) hs;rw [h4] at this;cases this
      rw [e1]
      have:=RO.past2 i it k it' hit hon hlo h2 l1 l2 h1 (by simpa using hb) hn'
      rw [hio] at this
      exact this
     ·have hall:∀ k it', k < i→its[k]?=some it'→it'.st E≠none→ls.getD k false=true := fun k it' h1 h2 h3 => by
       cases hs:ls.getD k false with
       | true=>rfl
       | false=>exact absurd ⟨k,it',h1,h2,h3,hs⟩ hex1
      rcases lastSel_cases (sel:=fun k=>decide (i < k) && ls.getD k false) (its.map (·.st E)) 0 rows with h|⟨k,x,g1,g2,g3⟩
      ·have e1:lastSel (selB ls) 0 (its.map (·.st E)) rows=it.r0 := by
        rw [HIo.r0]
        refine sel_congr fun k x hx=>?_
        obtain ⟨it',h1,h2⟩:=map_some hx
        refine ⟨fun hlt=>hall k it' hlt h1 (by rw [h2];simp),fun hge=>?_⟩
        by_cases hk:k=i
        ·subst hk;exact hunF
        ·have:=h k x hx
         simp only [Nat.zero_add,Bool.and_eq_false_iff,decide_eq_false_iff_not] at this
         rcases this with h'|h'
         ·omega
         ·exact h'
       rw [e1]
       exact hex
      ·obtain ⟨it',h1,h2⟩:=map_some g1
       obtain ⟨l1,l2,l3⟩:=st_some h2
       simp only [Nat.zero_add,Bool.and_eq_true,decide_eq_true_eq] at g2
       have hb:bitB ms i k=false:=by
        cases hb:bitB ms i k with
        | false=>rfl
        | true=>have:=behind k hb;rw [g2.2] at this;cases this
       have e1:lastSel (selB ls) 0 (its.map (·.st E)) rows=it'.r1:=by
        rw [lastSel_last (sel:=selB ls) (its.map (·.st E)) 0 rows k x g1 (by simpa [selB] using g2.2) fun j y hj hy=>by
         have:=g3 j y hj hy
         simp only [Nat.zero_add,Bool.and_eq_false_iff,decide_eq_false_iff_not] at this
         simp only [Nat.zero_add,selB]
         rcases this with h'|h'
         ·omega
         ·exact h']
        exact l3
       rw [e1]
       have:=RO.pend2 k it' i it h1 l1 l2 hit hon hlo g2.1 (by simpa using hb) hn'
       rw [hio] at this
       exact this
  have hx':xop E (callN E nn) true (restr it.L (opT o.op.operands.toList)) (lastSel (selB ls) 0 (its.map (·.st E)) rows) o.op fun v' r'=>v'=it.v∧r'=lastSel (selB (ls.setIfInBounds i true)) 0 (its.map (·.st E)) rows:=by
   rw [←xop_congr (L:=it.L) fun t ht=>look_restr it.L _ t ht]
   exact hx
  have hS:SlotsR m q (restr it.L (opT o.op.operands.toList)) a:=fun t v hv=>by
   obtain ⟨h1,h2⟩:=restr_look _ _ _ _ hv
   obtain ⟨y,h3,h4⟩:=HIo.slot t v h2
   replace h3:lastSel (selB ls) 0 (its.map (·.wr t)) (look L0 t)=some y:=(hcv t (by unfold namesO;exact List.mem_append_left _ h1)).trans h3
   exact h4.vr (hslot t y h3)
  refine (xop_ok H HC C hS hx').wp fun u w' ⟨v,rows',R',m',q',⟨e1,e2⟩,C',hm',hq',hv⟩=>?_
  subst e1 e2
  exact fin u w' R' m' q' C' hm' hq' hv
theorem count_set {ls:Array Bool} {i:Nat} (h:ls.getD i true=false):(ls.setIfInBounds i true).toList.count false+1=ls.toList.count false:=by
 have hi:i < ls.size:=by
  rcases Nat.lt_or_ge i ls.size with h'|h'
  ·exact h'
  ·simp [Array.getElem?_eq_none h'] at h
 have key:∀ (l:List Bool) (i:Nat),l[i]?=some false→(l.set i true).count false+1=l.count false:=by
  intro l
  induction l with
  | nil=>intro i h;simp at h
  | cons x r ih =>
   intro i h
   cases i with
   | zero=>simp at h;subst h;simp
   | succ i =>
    have:=ih i (by simpa using h)
    simp only [List.set_cons_succ,List.count_cons]
    omega
 have h2:ls.toList[i]?=some false:=by simp [hi] at h ⊢;exact h
 have:=key ls.toList i h2
 simpa using this
theorem any_of_inv {P:Program} {ops:Array Oper} {Q:Exit→Act→World→Prop} {Inv:Array Bool→Act→World→Prop} (step:∀ ls a w i, Inv ls a w→i∈Region.ready .any ops ls→wpOp P ops Q i (fun a' w' => Inv (ls.setIfInBounds i true) a' w') a w)
  (done:∀ ls a w,Inv ls a w→Region.ready .any ops ls=[]→Q .normal a w):∀ (f:Nat) (ls:Array Bool) (a:Act) (w:World),ls.toList.count false≤f→Inv ls a w→wpAny P .any ops Q f ls a w
 | 0,ls,a,w,hc,I=>by
  have hr:Region.ready .any ops ls=[]:=by
   cases hr:Region.ready .any ops ls with
   | nil=>rfl
   | cons i r =>
    have hi:i∈Region.ready .any ops ls:=by rw [hr];simp
    have:=count_set (mem_ready.1 hi).1
    omega
  exact ⟨hr,done ls a w I hr⟩
 | f+1,ls,a,w,hc,I=>⟨fun hr=>done ls a w I hr,fun i hi=>by
  have:=count_set (mem_ready.1 hi).1
  exact wpOp_mono (fun a' w' I'=>any_of_inv step done f _ a' w' (by omega) I') (step ls a w i I hi)⟩
theorem reg_draw (H:EnvOK E) {nn:Nat} (HC:CallOK E (callN E nn)) {id:Nat} {K:VSlots→Rows→Prop} {Q:Exit→Act→World→Prop} {a:Act} {w:World} (hd:dstsL n ops.toList=true) (hw:drawB E ops.toList ms=true) (h:dOps E (callN E nn) ms ops.toList 0 ops.toList L0 rows [] [] K)
  (S:SIM w0 m0 mb qb n L0 rows a w) (hQ:∀ L' rows' a' w',K L' rows'→SIM w0 m0 mb qb n L' rows' a' w'→Fr (fun t=>∀ o∈ops.toList,o.dst≠some t) (fun t=>a.tmps.getD t undef) a'→Q .normal a' w'):(Code.region id ops true).wp E.P Q a w:=by
 have D:=drawB_ok hw
 obtain ⟨its,Lf,hm,RO,hK,hLf⟩:=dOps_run ops.toList 0 L0 rows [] [] (fun t=>look L0 t) (fun t x hx=>⟨x,hx,.inl rfl⟩) h
 obtain ⟨⟨R,m,q,s1,s2,s3,s4,s5⟩,s6,s7⟩:=S
 refine wp_region_any H.mixed (frame_any (Q:=NormQ fun a' w'=>∃ L' rows',K L' rows'∧SIM w0 m0 mb qb n L' rows' a' w') (NormQ.out fun a' w' ha ⟨L',rows',hk,S'⟩=>hQ _ _ _ _ hk S' ha) (fun i o ho d hd hF=>hF o (by simpa using Array.mem_of_getElem? ho) hd) _ _ _ _ (fun t _=>rfl) (any_of_inv (Inv:=fun ls a w=>DInv w0 m0 mb qb n E ops L0 rows its ls a w) (fun ls a w i I hi=>draw_step H HC D hm RO hd I hi) (fun ls a w I hr=>?_) _ _ _ _ (by rw [Array.toList_replicate,List.count_replicate];simp) ?_))
 ·
  have hall:∀ j,j < ops.size→ls.getD j false=true:=by
   intro j
   induction j using Nat.strongRecOn with
   | _ j ih =>
    intro hj
    cases hs:ls.getD j false with
    | true=>rfl
    | false =>
     have hjr:j∈Region.ready .any ops ls:=by
      refine mem_ready.2 ⟨?_,ops[j],by simp [hj],fun e he hb=>?_⟩
      ·have:j < ls.size:=by rw [I.size];exact hj
       simp [this] at hs ⊢;exact hs
      ·have:=D.back j ops[j] (by simp [hj]) e he hb
       exact ih e.on this (by omega)
     rw [hr] at hjr;cases hjr
  have hlen:its.length=ops.size:=by
   have:=congrArg List.length hm
   simpa using this
  obtain ⟨R,m,q,C,hslot,hmb,hqb⟩:=I.ex
  have e1:∀ {α:Type _} (f:Item→Option α) (acc : α),lastSel (selB ls) 0 (its.map f) acc=lastSel (fun _=>true) 0 (its.map f) acc:=fun f acc=>lastSel_congr _ _ _ fun k x hx=>by
   have hk:k < its.length:=by have:=(List.getElem?_eq_some_iff.1 hx).1;simpa using this
   simp only [Nat.zero_add,selB]
   exact hall k (by omega)
  refine ⟨_,_,hK,⟨R,m,q,C.sit,(by rw [←e1];exact C.rok),fun t v hv=>?_,hmb,hqb⟩,I.tmps,I.defers⟩
  obtain ⟨y,h1,h2⟩:=hLf t v hv
  exact h2.vr (hslot t y (by rw [e1];exact h1))
 ·have hf:∀ k, (Array.replicate ops.size false).getD k false=false := fun k => by
   rw [Array.getD_eq_getD_getElem?,Array.getElem?_replicate]
   split<;>rfl
  refine ⟨by simp,fun j o ho hj=>(by rw [hf] at hj;cases hj),⟨R,m,q,?_,fun t y hy=>?_,s4,s5⟩,s6,s7⟩
  ·rw [lastSel_none _ _ _ fun k x _=>hf _]
   exact (Cf.mk s1 s2).step (Bel.drew [] w)
  ·rw [lastSel_none _ _ _ fun k x _=>hf _] at hy
   exact s3 t y hy
end
end Gv
end PartV12d
section PartV13p
namespace Gv
open Go Go.RowKit Gw
variable [Glob]
section
def IxOK (F:IxK) (ρ:Nat→Nat→Prop):Prop:=∀ r k,F r k→∃ r',k r'∧ρ r r'
variable {F:IxK} {ρ:Nat→Nat→Prop}
inductive RnA (ρ:Nat→Nat→Prop):V→V→Prop
 | own {r r'} (h : ρ r r'):RnA ρ (.own r) (.own r')
 | ptr {r r' i o} (h : ρ r r'):RnA ρ (.ptr r i o) (.ptr r' i o)
 | map {r r'} (h : ρ r r'):RnA ρ (.map r) (.map r')
 | fn {f}:RnA ρ (.fn f []) (.fn f [])
 | elt {x o}:RnA ρ (.elt x o) (.elt x o)
 | pure {v} (h:v.pure=true):RnA ρ v v
def RnL (g:V→V→Prop) (vs us:List V):Prop:=vs.length=us.length∧∀ (i:Nat) v u,vs[i]?=some v→us[i]?=some u→g v u
inductive RnF (ρ:Nat→Nat→Prop):V→V→Prop
 | a {v v'} (h:RnA ρ v v'):RnF ρ v v'
 | fn {f cs cs'} (h:RnL (RnA ρ) cs cs'):RnF ρ (.fn f cs) (.fn f cs')
inductive RnV (ρ:Nat→Nat→Prop):V→V→Prop
 | f {v v'} (h:RnF ρ v v'):RnV ρ v v'
 | agg {cs cs'} (h:RnL (RnF ρ) cs cs'):RnV ρ (.agg cs) (.agg cs')
inductive RnT (ρ:Nat→Nat→Prop):V→V→Prop
 | v {v v'} (h:RnV ρ v v'):RnT ρ v v'
 | tup {cs cs'} (h:RnL (RnV ρ) cs cs'):RnT ρ (.tup cs) (.tup cs')
inductive RnR (ρ:Nat→Nat→Prop):Row→Row→Prop
 | box {t cs cs'} (h:RnL (RnF ρ) cs cs'):RnR ρ (.bx t cs) (.bx t cs')
 | same {x} (h:∀ t cs,x≠.bx t cs) (h':∀ k els,x≠.rowq k els) (h1:x.one=true):RnR ρ x x
theorem reA_ok (H:IxOK F ρ) {v:V} {k:V→Prop} (h:reA F v k):∃ v',k v'∧RnA ρ v v':=by
 unfold reA at h
 split at h<;>first|exact h.elim|skip
 ·obtain ⟨r',h1,h2⟩:=H _ _ h;exact ⟨_,h1,.own h2⟩
 ·obtain ⟨r',h1,h2⟩:=H _ _ h;exact ⟨_,h1,.ptr h2⟩
 ·obtain ⟨r',h1,h2⟩:=H _ _ h;exact ⟨_,h1,.map h2⟩
 ·split at h
  ·exact ⟨_,h,.fn⟩
  ·exact h.elim
 ·exact ⟨_,h,.elt⟩
 all_goals exact ⟨_,h,.pure rfl⟩
theorem reL_ok {g:V→(V→Prop)→Prop} {G:V→V→Prop} (H:∀ v k,g v k→∃ v',k v'∧G v v'):∀ {vs:List V} {k:List V→Prop},reL g vs k→∃ us,k us∧RnL G vs us
 | [],k,h=>⟨[],h,rfl,fun i v u e=>by simp at e⟩
 | v::r,k,h=>by
  obtain ⟨v',h1,h2⟩:=H _ _ (show g v fun v'=>reL g r fun r'=>k (v'::r') from h)
  obtain ⟨us,h3,h4,h5⟩:=reL_ok H h1
  refine ⟨_,h3,by simp [h4],fun i x u e e'=>?_⟩
  cases i with
  | zero=>simp at e e';subst e e';exact h2
  | succ i=>exact h5 i x u (by simpa using e) (by simpa using e')
theorem reF_ok (H:IxOK F ρ) {v:V} {k:V→Prop} (h:reF F v k):∃ v',k v'∧RnF ρ v v':=by
 unfold reF at h
 split at h
 ·obtain ⟨us,h1,h2⟩:=reL_ok (g:=reA F) (fun v k=>reA_ok H) h;exact ⟨_,h1,.fn h2⟩
 ·obtain ⟨v',h1,h2⟩:=reA_ok H h;exact ⟨_,h1,.a h2⟩
theorem reV_ok (H:IxOK F ρ) {v:V} {k:V→Prop} (h:reV F v k):∃ v',k v'∧RnV ρ v v':=by
 unfold reV at h
 split at h
 ·obtain ⟨us,h1,h2⟩:=reL_ok (g:=reF F) (fun v k=>reF_ok H) h;exact ⟨_,h1,.agg h2⟩
 ·obtain ⟨v',h1,h2⟩:=reF_ok H h;exact ⟨_,h1,.f h2⟩
theorem reT_ok (H:IxOK F ρ) {v:V} {k:V→Prop} (h:reT F v k):∃ v',k v'∧RnT ρ v v':=by
 unfold reT at h
 split at h
 ·obtain ⟨us,h1,h2⟩:=reL_ok (g:=reV F) (fun v k=>reV_ok H) h;exact ⟨_,h1,.tup h2⟩
 ·obtain ⟨v',h1,h2⟩:=reV_ok H h;exact ⟨_,h1,.v h2⟩
theorem reRow_ok (H:IxOK F ρ) {x:Row} {k:Row→Prop} (h:reRow F x k):∃ x',k x'∧RnR ρ x x':=by
 unfold reRow at h
 split at h
 ·obtain ⟨us,h1,h2⟩:=reL_ok (g:=reF F) (fun v k=>reF_ok H) h;exact ⟨_,h1,.box h2⟩
 ·exact h.elim
 ·exact h.elim
 ·rename_i hx hx' hx1;exact ⟨_,h,.same hx hx' (by cases x<;>first|rfl|exact absurd rfl (hx1 _ _))⟩
theorem reRows_ok (H:IxOK F ρ):∀ {rs:Rows} {k:Rows→Prop},reRows F rs k→∃ rs',k rs'∧rs.length=rs'.length∧∀ (i:Nat) x x',rs[i]?=some x→rs'[i]?=some x'→RnR ρ x x'
 | [],k,h=>⟨[],h,rfl,fun i v u e=>by simp at e⟩
 | x::r,k,h=>by
  obtain ⟨x',h1,h2⟩:=reRow_ok H (show reRow F x fun x'=>reRows F r fun r'=>k (x'::r') from h)
  obtain ⟨us,h3,h4,h5⟩:=reRows_ok H h1
  refine ⟨_,h3,by simp [h4],fun i y u e e'=>?_⟩
  cases i with
  | zero=>simp at e e';subst e e';exact h2
  | succ i=>exact h5 i y u (by simpa using e) (by simpa using e')
variable {m:Mem} {q q':Loc} (Hq:∀ r r',ρ r r'→∀ x,q r=some x→q' r'=some x)
include Hq
theorem RnA.vr {v v':V} {u:Value} (h:RnA ρ v v') (hv:VR m q v u):VR m q' v' u:=by
 cases h with
 | own h=>cases hv with|own g=>exact .own (Hq _ _ h _ g)
 | ptr h=>cases hv with|ptr g=>exact .ptr (Hq _ _ h _ g)
 | map h=>cases hv with|map g=>exact .map (Hq _ _ h _ g)
 | fn=>cases hv with|@fn _ _ _ us hl he=>exact .fn hl fun i v u e=>by simp at e
 | elt=>cases hv with|elt us h3 h5 h6=>exact .elt us h3 h5 h6
 | pure h=>exact (hv.free h).up (Mem.Le.refl _) (noLoc_le _)
theorem RnL.vr {g:V→V→Prop} (G:∀ v v' u,g v v'→VR m q v u→VR m q' v' u) {vs vs':List V} {us:List Value} (h:RnL g vs vs') (hv:VRL m q vs us):VRL m q' vs' us:=by
 refine ⟨h.1 ▸ hv.len,fun i v' u e e'=>?_⟩
 have hi:i < vs.length:=by rw [h.1];exact (List.getElem?_eq_some_iff.1 e).1
 exact G _ _ _ (h.2 i _ _ (List.getElem?_eq_getElem hi) e) (hv.el i _ u (List.getElem?_eq_getElem hi) e')
theorem RnF.vr {v v':V} {u:Value} (h:RnF ρ v v') (hv:VR m q v u):VR m q' v' u:=by
 cases h with
 | a h=>exact h.vr Hq hv
 | fn h =>
  cases hv with
  | @fn _ _ _ us hl he =>
   have:=RnL.vr Hq (fun v v' u h hv=>h.vr Hq hv) h ⟨hl,he⟩
   exact .fn this.len this.el
theorem RnV.vr {v v':V} {u:Value} (h:RnV ρ v v') (hv:VR m q v u):VR m q' v' u:=by
 cases h with
 | f h=>exact h.vr Hq hv
 | agg h =>
  cases hv with
  | @agg _ _ us hl he =>
   have:=RnL.vr Hq (fun v v' u h hv=>h.vr Hq hv) h ⟨hl,he⟩
   exact .agg this.len this.el
theorem RnT.vr {v v':V} {u:Value} (h:RnT ρ v v') (hv:VR m q v u):VR m q' v' u:=by
 cases h with
 | v h=>exact h.vr Hq hv
 | tup h =>
  cases hv with
  | @tup _ _ us hl he =>
   have:=RnL.vr Hq (fun v v' u h hv=>h.vr Hq hv) h ⟨hl,he⟩
   exact .tup this.len this.el
theorem RnR.ok {R R':Mem} {r r':Nat} {x x':Row} (h:RnR ρ x x') (hr : ρ r r') (hR:x.mut=true→∀ b,Occ q r x b→R' b=R b) (hx:RowOK R m q r x):RowOK R' m q' r' x':=by
 cases h with
 | box h =>
  obtain ⟨b,arr,T,h1,h2,hT,h3,h4⟩:=hx
  refine ⟨b,arr,T,?_,by rw [hR rfl _ ⟨_,_,_,h1⟩];exact h2,hT,by rw [h3,h.1],fun j v e=>?_⟩
  ·rw [←h.1];exact Hq _ _ hr _ h1
  ·have hj:=(List.getElem?_eq_some_iff.1 e).1
   rw [←h.1] at hj
   obtain ⟨u,g1,g2,g3⟩:=h4 j _ (List.getElem?_eq_getElem hj)
   exact ⟨u,g1,g2,(h.2 j _ _ (List.getElem?_eq_getElem hj) e).vr Hq g3⟩
 | same hb hb' hb1 =>
  cases x with
  | pack Q subs=>cases hb1
  | dead=>trivial
  | rowq k els=>exact absurd rfl (hb' k els)
  | byt E l =>
   obtain ⟨b,cap,arr,h1,h2,h3,h4,h5⟩:=hx
   exact ⟨b,cap,arr,Hq _ _ hr _ h1,h2,h3,by rw [hR rfl _ ⟨_,_,_,h1⟩];exact h4,h5⟩
  | bx t cs=>exact absurd rfl (hb t cs)
  | row k els =>
   obtain ⟨ob,cap,h1,h2,h3,h4,h5⟩:=hx
   refine ⟨ob,cap,Hq _ _ hr _ h1,h2,h3,h4,fun b e=>?_⟩
   obtain ⟨arr,T,fz,g1,g2⟩:=h5 b e
   subst e
   exact ⟨arr,T,fz,by rw [hR rfl _ ⟨_,_,_,h1⟩];exact g1,g2⟩
  | fz enc l =>
   obtain ⟨ob,cap,k,h1,h2⟩:=hx
   exact ⟨ob,cap,k,Hq _ _ hr _ h1,h2⟩
  | mp kt et kk enc ents =>
   obtain ⟨b,es,clock,h1,h2,h3⟩:=hx
   exact ⟨b,es,clock,Hq _ _ hr _ h1,by rw [hR rfl _ ⟨_,_,_,h1⟩];exact h2,h3⟩
end
theorem RnR.one {ρ:Nat→Nat→Prop} {x x':Row} (h:RnR ρ x x'):x.one=true∧x'.one=true:=by cases h<;>first|exact ⟨rfl,rfl⟩|(rename_i h1;exact ⟨h1,h1⟩)
theorem RnR.mut {ρ:Nat→Nat→Prop} {x x':Row} (h:RnR ρ x x'):x'.mut=x.mut:=by cases h<;>rfl
theorem blk_some {R m:Mem} {q:Loc} {r:Nat} {x:Row} {b:Nat} (h:RowOK R m q r x) (hm:x.mut=true) (ho:Occ q r x b):∃ o,R b=some o:=by
 by_cases h1:x.one=true
 case neg =>
  cases x<;>first|exact absurd rfl h1|skip
  obtain ⟨j,n',c',k',hj,hb⟩:=ho
  obtain ⟨ob',cap,h1,h2,h3,h4,h5⟩:=h.1 j _ (List.getElem?_eq_getElem hj)
  rw [h1] at hb;cases hb
  obtain ⟨arr,T,fz,h6,_⟩:=h5 b rfl
  exact ⟨_,h6⟩
 obtain ⟨n,c,k,hq⟩:=occ_inv h1 ho
 cases x with
 | pack Q subs=>cases h1
 | dead=>cases hm
 | bx t cs=>obtain ⟨b',arr,T,h1,h2,-⟩:=h;rw [h1] at hq;cases hq;exact ⟨_,h2⟩
 | row kk els =>
  obtain ⟨ob,cap,h1,h2,h3,h4,h5⟩:=h
  rw [h1] at hq;cases hq
  obtain ⟨arr,T,fz,g1,-⟩:=h5 b rfl
  exact ⟨_,g1⟩
 | rowq kk els =>
  obtain ⟨ob,cap,h1,h2,h3,h4,h5⟩:=h
  rw [h1] at hq;cases hq
  obtain ⟨arr,T,fz,g1,-⟩:=h5 b rfl
  exact ⟨_,g1⟩
 | fz enc l=>cases hm
 | byt E l=>obtain ⟨b',cap,arr,h1,h2,h3,h4,h5⟩:=h;rw [h1] at hq;cases hq;exact ⟨_,h4⟩
 | mp kt et kk enc ents=>obtain ⟨b',es,clock,h1,h2,-⟩:=h;rw [h1] at hq;cases hq;exact ⟨_,h2⟩
theorem nodup_inj {l:List Nat} (h:l.Nodup) {i j:Nat} (hi:i < l.length) (hj:j < l.length) (e:l[i]=l[j]):i=j:=by
 rw [List.nodup_iff_pairwise_ne,List.pairwise_iff_getElem] at h
 rcases Nat.lt_trichotomy i j with h1|h1|h1
 ·exact absurd e (h i j hi hj h1)
 ·exact h1
 ·exact absurd e.symm (h j i hj hi h1)
theorem memN_iff {t:Nat}:∀ {l:List Nat},memN t l=true↔t∈l
 | []=>by simp [memN]
 | x::r=>by
  unfold memN
  split
  ·rename_i h
   have:=Nat.eq_of_beq_eq_true h
   simp [this]
  ·rename_i h
   have hx:t≠x:=fun e=>by subst e;rw [Nat.beq_refl] at h;cases h
   rw [memN_iff]
   simp [hx]
theorem nodupB_ok:∀ {l:List Nat},nodupB l=true→l.Nodup
 | [],_=>List.nodup_nil
 | x::r,h=>by
  have h':(match memN x r with|true=>false|false=>nodupB r)=true:=h
  split at h'
  ·cases h'
  ·rename_i hm
   refine List.nodup_cons.2 ⟨fun h=>?_,nodupB_ok h'⟩
   rw [memN_iff.2 h] at hm
   cases hm
theorem listK_ok:∀ {l:List Nat} {k:List Nat→Prop},listK l k→∃ s,k s
 | [],k,h=>⟨_,h⟩
 | x::r,k,h=>listK_ok (l:=r) (show listK r fun s=>k (x::s) from h) |>.elim fun s hs=>⟨_,hs⟩
theorem posK_ok {sel:List Nat}:∀ {l:List Nat} {i:Nat} {r:Nat} {k:Nat→Prop},posK r k l i→∃ j,k j∧i≤j∧l[j-i]?=some r
 | [],i,r,k,h=>h.elim
 | x::s,i,r,k,h=>by
  have h':(match Nat.beq x r with|true=>numK i k|false=>posK r k s (i+1)):=h
  split at h'
  ·rename_i hb
   have:=Nat.eq_of_beq_eq_true hb
   subst this
   exact ⟨i,numK_eq _ _ h',Nat.le_refl _,by simp⟩
  ·obtain ⟨j,h1,h2,h3⟩:=posK_ok (sel:=sel) h'
   refine ⟨j,h1,by omega,?_⟩
   rw [show j-i=(j-(i+1))+1 by omega]
   simpa using h3
theorem selRowsK_ok {rows:Rows}:∀ {sel:List Nat} {k:Rows→Prop},selRowsK rows sel k→∃ rs,k rs∧rs.length=sel.length∧∀ (i:Nat) r,sel[i]?=some r→∃ x,rows[r]?=some x∧rs[i]?=some x
 | [],k,h=>⟨[],h,rfl,fun i r e=>by simp at e⟩
 | r::s,k,h=>by
  have h':(match nth rows r with|some x=>selRowsK rows s fun rs=>k (x::rs)|none=>False):=h
  split at h'
  ·rename_i x hx
   rw [nth_eq] at hx
   obtain ⟨rs,h1,h2,h3⟩:=selRowsK_ok h'
   refine ⟨_,h1,by simp [h2],fun i y e=>?_⟩
   cases i with
   | zero=>simp at e;subst e;exact ⟨x,hx,rfl⟩
   | succ i=>simpa using h3 i y (by simpa using e)
  ·exact h'.elim
theorem mergeK_ok:∀ {sel:List Nat} {ys rows:Rows} {k:Rows→Prop},sel.Nodup→mergeK sel ys rows k→sel.length≤ys.length∧∃ rows',k rows'∧rows'.length=rows.length+(ys.length-sel.length)∧(∀ r,r < rows.length→r ∉ sel→rows'[r]?=rows[r]?)∧(∀ (i:Nat) r,sel[i]?=some r→r < rows.length∧rows'[r]?=ys[i]?)∧∀ i,rows'[rows.length+i]?=ys[sel.length+i]?
 | [],ys,rows,k,_,h=>by
  refine ⟨Nat.zero_le _,_,appK_ok _ _ _ h,by simp,fun r hr _=>List.getElem?_append_left hr,fun i r e=>by simp at e,fun i=>?_⟩
  rw [List.getElem?_append_right (by omega)]
  simp
 | r::s,ys,rows,k,hn,h=>by
  match ys,h with
  | [],h=>exact (show False from h).elim
  | y::ys,h =>
   obtain ⟨hr,h'⟩:=setK_ok _ _ _ _ (show setK rows r y fun rows'=>mergeK s ys rows' k from h)
   obtain ⟨hns,hn'⟩:=List.nodup_cons.1 hn
   obtain ⟨h1,rows',h2,h3,h4,h5,h6⟩:=mergeK_ok hn' h'
   rw [List.length_set] at h3 h4 h5 h6
   refine ⟨by simp;omega,rows',h2,by simp;omega,fun t ht hts=>?_,fun i t e=>?_,fun i=>?_⟩
   ·simp only [List.mem_cons,not_or] at hts
    rw [h4 t ht hts.2,List.getElem?_set_ne (fun h=>hts.1 h.symm)]
   ·cases i with
    | zero =>
     simp at e
     subst e
     refine ⟨hr,?_⟩
     rw [h4 r hr hns,List.getElem?_set_self hr]
     rfl
    | succ i=>simpa using h5 i t (by simpa using e)
   ·rw [h6 i,List.length_cons,show s.length+1+i=(s.length+i)+1 by omega,List.getElem?_cons_succ]
theorem backF_ok {sel:List Nat} {n:Nat}:IxOK (backF sel n) (fun i r=>sel[i]?=some r∨(sel.length≤i∧r=n+(i-sel.length))):=fun i k h=>by
 unfold backF at h
 rw [nth_eq] at h
 split at h
 ·rename_i r hr
  exact ⟨r,h,.inl hr⟩
 ·rename_i hr
  exact ⟨_,numK_eq _ _ h,.inr ⟨by simpa using hr,rfl⟩⟩
section
variable {w0:Start} {w w':World} {m0 R m:Mem} {q:Loc} {rows:Rows} {P:Program}
theorem proc0_ok {f:FuncId} {T:PSpec} (HT:PrimOK P f T) {args:List V} {k:V→Rows→Prop} {us:List Value} (C:Cf w0 m0 rows R m q w) (hv:VRL m q args us) (h:procO0 T args rows k) :
  callable P f=true∧Calls P f us.toArray w fun e w'=>∃ u,e=.returned u∧After w0 m0 m q k u w':=by
 unfold procO0 reachK at h
 obtain ⟨_,h⟩:=listK_ok h
 obtain ⟨_,h⟩:=listK_ok h
 obtain ⟨_,h⟩:=listK_ok h
 obtain ⟨sel,h⟩:=listK_ok h
 split at h
 ·exact h.elim
 rename_i hnd
 have hnd:=nodupB_ok hnd
 have HF:IxOK (fun r k=>posK r k sel 0) (fun r j=>sel[j]?=some r):=fun r k h=>by
  obtain ⟨j,h1,h2,h3⟩:=posK_ok (sel:=sel) h
  exact ⟨j,h1,by simpa using h3⟩
 obtain ⟨args',h,ha⟩:=reL_ok (g:=reV fun r k=>posK r k sel 0) (fun v k=>reV_ok HF) h
 obtain ⟨rs,h,hl1,hrs⟩:=selRowsK_ok h
 obtain ⟨rows0,h,hl2,hr0⟩:=reRows_ok HF h
 have hone:∀ r x,r∈sel→rows[r]?=some x→x.one=true:=fun r x hr hx=>by
  obtain ⟨j,hj,rfl⟩:=List.getElem_of_mem hr
  obtain ⟨x',g1,g2⟩:=hrs j sel[j] (List.getElem?_eq_getElem hj)
  rw [hx] at g1
  cases g1
  have hj2:j < rows0.length:=by omega
  exact (hr0 j x rows0[j] g2 (List.getElem?_eq_getElem hj2)).one.1
 let inX (b:Nat):Prop:=∃ r x n c k,r∈sel∧rows[r]?=some x∧x.mut=true∧q r=some (some b,n,c,k)
 let X0:List Nat:=sel.filterMap fun r=>match rows[r]? with
  | some x=>match x.mut with|true=>(q r).bind (·.1)|false=>none
  | none=>none
 have hX:∀ b,b∈X0↔inX b:=fun b=>by
  simp only [X0,List.mem_filterMap,inX]
  constructor
  ·rintro ⟨r,hr,e⟩
   split at e
   ·rename_i x hx
    split at e
    ·rename_i hm
     obtain ⟨⟨ob,n,c,k⟩,e1,e2⟩:=Option.bind_eq_some_iff.1 e
     dsimp only at e2
     subst e2
     exact ⟨r,x,n,c,k,hr,hx,hm,e1⟩
    ·cases e
   ·cases e
  ·rintro ⟨r,x,n,c,k,hr,hx,hm,e⟩
   refine ⟨r,hr,?_⟩
   rw [hx]
   dsimp only
   rw [hm,e]
   rfl
 let R0:Mem:=fun b=>if b∈X0 then R b else none
 let q0:Loc:=fun j=>match sel[j]? with|some r=>q r|none=>none
 have hq0:∀ r j,sel[j]?=some r→∀ x,q r=some x→q0 j=some x:=fun r j e x hx=>by
  show (match sel[j]? with|some r=>q r|none=>none)=some x
  rw [e];exact hx
 have hRX:∀ b,b∈X0→∃ o,R b=some o:=fun b hb=>by
  obtain ⟨r,x,n,c,k,h1,h2,h3,h4⟩:=(hX b).1 hb
  exact blk_some (C.rok.row r x h2) h3 (occ_one (hone r x h1 h2) h4)
 have C0:Cf ⟨w,X0⟩ m rows0 R0 m q0 w:=by
  refine ⟨⟨Bel.refl _ _,fun b o hb=>?_,C.sit.mem,fun b o e _ _=>e,C.sit.glob⟩,⟨fun j x hj=>?_,fun j y hy=>?_,fun j j' y y' b hy hy' hm hm' hb hb'=>?_⟩⟩
  ·simp only [R0] at hb
   split at hb
   ·rename_i hx;exact ⟨.inr hx,(C.sit.own b o hb).2⟩
   ·cases hb
  ·simp only [q0] at hj
   split at hj
   ·rename_i r e
    have:=(List.getElem?_eq_some_iff.1 e).1
    omega
   ·cases hj
  ·have hj:j < sel.length:=by have:=(List.getElem?_eq_some_iff.1 hy).1;omega
   obtain ⟨x,g1,g2⟩:=hrs j sel[j] (List.getElem?_eq_getElem hj)
   refine (hr0 j x y g2 hy).ok hq0 (r:=sel[j]) (List.getElem?_eq_getElem hj) (fun hm b e=>?_) (C.rok.row _ x g1)
   obtain ⟨n,c,k,e⟩:=occ_inv (hr0 j x y g2 hy).one.1 e
   have:b∈X0:=(hX b).2 ⟨sel[j],x,n,c,k,List.getElem_mem hj,g1,hm,e⟩
   simp only [R0,this,if_true]
  ·have hj:j < sel.length:=by have:=(List.getElem?_eq_some_iff.1 hy).1;omega
   have hj':j' < sel.length:=by have:=(List.getElem?_eq_some_iff.1 hy').1;omega
   obtain ⟨x,g1,g2⟩:=hrs j sel[j] (List.getElem?_eq_getElem hj)
   obtain ⟨x',g1',g2'⟩:=hrs j' sel[j'] (List.getElem?_eq_getElem hj')
   obtain ⟨n,c,k,hb⟩:=occ_inv (hr0 j x y g2 hy).one.2 hb
   obtain ⟨n',c',k',hb'⟩:=occ_inv (hr0 j' x' y' g2' hy').one.2 hb'
   have e1:q sel[j]=some (some b,n,c,k):=by simpa only [q0,List.getElem?_eq_getElem hj] using hb
   have e2:q sel[j']=some (some b,n',c',k'):=by simpa only [q0,List.getElem?_eq_getElem hj'] using hb'
   have:=C.rok.apart sel[j] sel[j'] x x' b g1 g1' (by rw [←(hr0 j x y g2 hy).mut];exact hm) (by rw [←(hr0 j' x' y' g2' hy').mut];exact hm') (occ_one (hr0 j x y g2 hy).one.1 e1) (occ_one (hr0 j' x' y' g2' hy').one.1 e2)
   exact nodup_inj hnd hj hj' this
 have hv0:VRL m q0 args' us:=RnL.vr hq0 (fun v v' u h hv=>h.vr hq0 hv) ha hv
 obtain ⟨hc,hcalls⟩:=HT ⟨w,X0⟩ m args' rows0 _ R0 m q0 w us C0 hv0 h
 refine ⟨hc,hcalls.mono fun e w' ⟨u,he,v,rows1,R1,m1,q1,h,C1,hm1,hq1,hvu⟩=>?_⟩
 obtain ⟨v',h,hv'⟩:=reT_ok backF_ok h
 obtain ⟨rows1',h,hl3,hr1⟩:=reRows_ok backF_ok h
 obtain ⟨hle,rows',h,hl4,k1,k2,k3⟩:=mergeK_ok hnd h
 have hf:∀ r,sel.findIdx? (· == r)=none∧r ∉ sel∨∃ i,sel.findIdx? (· == r)=some i∧sel[i]?=some r:=fun r=>by
  cases hfi:sel.findIdx? (· == r) with
  | none =>
   left
   refine ⟨rfl,fun hr=>?_⟩
   have:=List.findIdx?_eq_none_iff.1 hfi r hr
   simp at this
  | some i =>
   right
   obtain ⟨h1,h2,-⟩:=List.findIdx?_eq_some_iff_getElem.1 hfi
   refine ⟨i,rfl,?_⟩
   rw [List.getElem?_eq_getElem h1]
   simpa using h2
 let q':Loc:=fun r=>if r < rows.length then (match sel.findIdx? (· == r) with|some i=>q1 i|none=>q r) else q1 (sel.length+(r-rows.length))
 let R':Mem:=fun b=>match R1 b with|some o=>some o|none=>if b∈X0 then none else R b
 have hin:∀ i r,sel[i]?=some r→r < rows.length:=fun i r e=>(k2 i r e).1
 have hq'sel:∀ i r,sel[i]?=some r→q' r=q1 i:=fun i r e=>by
  have h1:=hin i r e
  simp only [q',h1,if_true]
  rcases hf r with ⟨-,h2⟩|⟨j,h2,h3⟩
  ·exact absurd (List.mem_of_getElem? e) h2
  ·rw [h2]
   have hi:=(List.getElem?_eq_some_iff.1 e)
   have hj:=(List.getElem?_eq_some_iff.1 h3)
   have:=nodup_inj hnd hi.1 hj.1 (by rw [hi.2,hj.2])
   subst this
   rfl
 have hq'old:∀ r,r < rows.length→r ∉ sel→q' r=q r:=fun r h1 h2=>by
  simp only [q',h1,if_true]
  rcases hf r with ⟨h3,-⟩|⟨j,h3,h4⟩
  ·rw [h3]
  ·exact absurd (List.mem_of_getElem? h4) h2
 have hq'new:∀ i,q' (rows.length+i)=q1 (sel.length+i):=fun i=>by
  have h1:¬ rows.length+i < rows.length:=by omega
  simp only [q',h1,if_false]
  congr 2
  omega
 have Hb:∀ i r,(sel[i]?=some r∨(sel.length≤i∧r=rows.length+(i-sel.length)))→q' r=q1 i:=fun i r h=>by
  rcases h with h|⟨h1,rfl⟩
  ·exact hq'sel i r h
  ·rw [hq'new,show sel.length+(i-sel.length)=i by omega]
 have Hq1:∀ i r,(sel[i]?=some r∨(sel.length≤i∧r=rows.length+(i-sel.length)))→∀ x,q1 i=some x→q' r=some x:=fun i r h x e=>by rw [Hb i r h];exact e
 have hqq:q.Le q':=fun r x e=>by
  have hr:=C.rok.fresh r x e
  by_cases hs:r∈sel
  ·obtain ⟨i,hi,rfl⟩:=List.getElem_of_mem hs
   rw [hq'sel i _ (List.getElem?_eq_getElem hi)]
   exact hq1 i x (hq0 _ i (List.getElem?_eq_getElem hi) x e)
  ·rw [hq'old r hr hs];exact e
 have hold:∀ b o,R b=some o→b ∉ X0→R1 b=none∧w'.heap[b]?=some o∧m1 b=none:=fun b o hb hx=>by
  obtain ⟨g1,g2,g3⟩:=C.sit.own b o hb
  have hlt:=C.sit.lt hb
  refine ⟨?_,?_,?_⟩
  ·cases hR:R1 b with
   | none=>rfl
   | some o' =>
    rcases (C1.sit.own b o' hR).1 with h|h
    ·have h:w.heap.size≤b:=h
     omega
    ·exact absurd h hx
  ·rw [C1.sit.bel.block b hlt hx];exact g2
  ·cases hm:m1 b with
   | none=>rfl
   | some o' =>
    have:=C1.sit.low b o' hm hlt hx
    rw [g3] at this
    cases this
 have hR'1:∀ b o,R1 b=some o→R' b=some o:=fun b o e=>by simp only [R',e]
 have hR'old:∀ b o,R b=some o→b ∉ X0→R' b=some o:=fun b o e hx=>by simp only [R',(hold b o e hx).1,hx,if_false,e]
 have hR'inv:∀ b o,R' b=some o→R1 b=some o∨(b ∉ X0∧R b=some o):=fun b o e=>by
  simp only [R'] at e
  split at e
  ·rename_i o' h;cases e;exact .inl h
  ·split at e
   ·cases e
   ·rename_i hx;exact .inr ⟨hx,e⟩
 have hcase:∀ (r:Nat) y,rows'[r]?=some y→(r < rows.length∧r ∉ sel∧rows[r]?=some y)∨∃ i x,rows1[i]?=some x∧RnR (fun i r=>sel[i]?=some r∨(sel.length≤i∧r=rows.length+(i-sel.length))) x y∧(sel[i]?=some r∨(sel.length≤i∧r=rows.length+(i-sel.length))):=fun r y hy=>by
  have mk:∀ i,rows1'[i]?=some y→(sel[i]?=some r∨(sel.length≤i∧r=rows.length+(i-sel.length)))→∃ i x,rows1[i]?=some x∧RnR (fun i r=>sel[i]?=some r∨(sel.length≤i∧r=rows.length+(i-sel.length))) x y∧(sel[i]?=some r∨(sel.length≤i∧r=rows.length+(i-sel.length))):=fun i hi hr=>by
   have hlt:i < rows1.length:=by rw [hl3];exact (List.getElem?_eq_some_iff.1 hi).1
   exact ⟨i,_,List.getElem?_eq_getElem hlt,hr1 i _ _ (List.getElem?_eq_getElem hlt) hi,hr⟩
  by_cases h1:r < rows.length
  ·by_cases hs:r∈sel
   ·obtain ⟨i,hi,rfl⟩:=List.getElem_of_mem hs
    have e:=List.getElem?_eq_getElem hi
    exact .inr (mk i (by rw [←(k2 i _ e).2];exact hy) (.inl e))
   ·exact .inl ⟨h1,hs,by rw [←k1 r h1 hs];exact hy⟩
  ·have e:=k3 (r-rows.length)
   rw [show rows.length+(r-rows.length)=r by omega] at e
   exact .inr (mk (sel.length+(r-rows.length)) (by rw [←e];exact hy) (.inr ⟨by omega,by omega⟩))
 refine ⟨u,he,v',rows',R',m1,q',h,⟨⟨?_,?_,C1.sit.mem,?_,C1.sit.glob⟩,⟨?_,?_,?_⟩⟩,hm1,hqq,hv'.vr Hq1 hvu⟩
 ·refine C.sit.bel.then C1.sit.bel fun b hb=>?_
  obtain ⟨o,ho⟩:=hRX b hb
  exact (C.sit.own b o ho).1
 ·intro b o hb
  rcases hR'inv b o hb with h|⟨hx,h⟩
  ·obtain ⟨g1,g2,g3⟩:=C1.sit.own b o h
   refine ⟨?_,g2,g3⟩
   rcases g1 with g1|g1
   ·exact .inl (Nat.le_trans C.sit.bel.size g1)
   ·obtain ⟨o',ho'⟩:=hRX b g1
    exact (C.sit.own b o' ho').1
  ·obtain ⟨g1,g2,g3⟩:=hold b o h hx
   exact ⟨(C.sit.own b o h).1,g2,g3⟩
 ·intro b o hb hlt hx
  have hlt2:b < w.heap.size:=Nat.lt_of_lt_of_le hlt C.sit.bel.size
  have hx0:b ∉ X0:=fun hx0=>by
   obtain ⟨o',ho'⟩:=hRX b hx0
   rcases (C.sit.own b o' ho').1 with g|g
   ·omega
   ·exact hx g
  exact C.sit.low b o (C1.sit.low b o hb hlt2 hx0) hlt hx
 ·intro r x hr
  by_cases h1:r < rows.length
  ·omega
  ·have e:q' r=q1 (sel.length+(r-rows.length)):=by simp only [q',h1,if_false]
   rw [e] at hr
   have:=C1.rok.fresh _ _ hr
   omega
 ·intro r y hy
  rcases hcase r y hy with ⟨g1,g2,g3⟩|⟨i,x,g1,g2,g3⟩
  ·refine (C.rok.row r y g3).up hm1 hqq fun hm b e=>?_
   obtain ⟨o,ho⟩:=blk_some (C.rok.row r y g3) hm e
   have hx:b ∉ X0:=fun hx=>by
    obtain ⟨r2,x2,n2,c2,k2',f1,f2,f3,f4⟩:=(hX b).1 hx
    exact g2 (C.rok.apart r r2 y x2 b g3 f2 hm f3 e (occ_one (hone r2 x2 f1 f2) f4) ▸ f1)
   rw [hR'old b o ho hx,ho]
  ·refine g2.ok Hq1 g3 (fun hm b e=>?_) (C1.rok.row i x g1)
   obtain ⟨o,ho⟩:=blk_some (C1.rok.row i x g1) hm e
   rw [hR'1 b o ho,ho]
 ·intro r r' y y' b hy hy' hm hm' hb hb'
  have oldX:∀ r y,r < rows.length→r ∉ sel→rows[r]?=some y→y.mut=true→Occ q' r y b→b ∉ X0∧∃ o,R b=some o:=fun r y g1 g2 g3 hm hb=>by
   have hb:=occ_q (hq'old r g1 g2).symm hb
   refine ⟨fun hx=>?_,blk_some (C.rok.row r y g3) hm hb⟩
   obtain ⟨r2,x2,n2,c2,k2',f1,f2,f3,f4⟩:=(hX b).1 hx
   exact g2 (C.rok.apart r r2 y x2 b g3 f2 hm f3 hb (occ_one (hone r2 x2 f1 f2) f4) ▸ f1)
  have newX:∀ (i r:Nat) (x:Row),rows1[i]?=some x→x.mut=true→Occ q1 i x b→∃ o,R1 b=some o:=fun i r x g1 hm hb=>blk_some (C1.rok.row i x g1) hm hb
  have back:∀ (i r:Nat) x y,RnR (fun i r=>sel[i]?=some r∨(sel.length≤i∧r=rows.length+(i-sel.length))) x y→(sel[i]?=some r∨(sel.length≤i∧r=rows.length+(i-sel.length)))→Occ q' r y b→Occ q1 i x b:=fun i r x y g2 g3 hb=>by
   obtain ⟨n,c,k,hb⟩:=occ_inv g2.one.2 hb
   exact occ_one g2.one.1 (by rw [←Hb i r g3];exact hb)
  rcases hcase r y hy with ⟨g1,g2,g3⟩|⟨i,x,g1,g2,g3⟩<;>rcases hcase r' y' hy' with ⟨g1',g2',g3'⟩|⟨i',x',g1',g2',g3'⟩
  ·exact C.rok.apart r r' y y' b g3 g3' hm hm' (occ_q (hq'old r g1 g2).symm hb) (occ_q (hq'old r' g1' g2').symm hb')
  ·exfalso
   obtain ⟨hx,o,ho⟩:=oldX r y g1 g2 g3 hm hb
   obtain ⟨o',ho'⟩:=newX i' r' x' g1' (by rw [←g2'.mut];exact hm') (back i' r' x' y' g2' g3' hb')
   rw [(hold b o ho hx).1] at ho'
   cases ho'
  ·exfalso
   obtain ⟨hx,o,ho⟩:=oldX r' y' g1' g2' g3' hm' hb'
   obtain ⟨o',ho'⟩:=newX i r x g1 (by rw [←g2.mut];exact hm) (back i r x y g2 g3 hb)
   rw [(hold b o ho hx).1] at ho'
   cases ho'
  ·have:=C1.rok.apart i i' x x' b g1 g1' (by rw [←g2.mut];exact hm) (by rw [←g2'.mut];exact hm') (back i r x y g2 g3 hb) (back i' r' x' y' g2' g3' hb')
   subst this
   rcases g3 with g3|⟨g3,rfl⟩
   ·rcases g3' with g3'|⟨g3',-⟩
    ·rw [g3] at g3';exact Option.some.inj g3'
    ·have:=(List.getElem?_eq_some_iff.1 g3).1
     omega
   ·rcases g3' with g3'|⟨g3',rfl⟩
    ·have:=(List.getElem?_eq_some_iff.1 g3').1
     omega
    ·rfl
theorem proc_ok {f:FuncId} {T:PSpec} (HT:PrimOK P f T) {args:List V} {k:V→Rows→Prop} {us:List Value} (C:Cf w0 m0 rows R m q w) (hv:VRL m q args us) (h:procO T args rows k) :
  callable P f=true∧Calls P f us.toArray w fun e w'=>∃ u,e=.returned u∧After w0 m0 m q k u w':=by
 obtain ⟨vs',rows',R',m',h1,C',hm,hv'⟩:=fzDS_ok args rows R m us _ C hv h
 obtain ⟨hc,hcalls⟩:=proc0_ok HT C' hv' h1
 exact ⟨hc,hcalls.mono fun e w' ⟨u,he,v,rows2,R2,m2,q2,g1,g2,g3,g4,g5⟩=>⟨u,he,v,rows2,R2,m2,q2,g1,g2,hm.trans g3,g4,g5⟩⟩
end
end Gv
end PartV13p
section PartV13
namespace Gv
open Go Go.RowKit Gw
variable [Glob]
section
variable {w0:Start} {w w':World} {m0 R m:Mem} {q:Loc} {rows rows':Rows} {E:Env} {P:Program}
theorem reg_ok (H:EnvOK E) {nn:Nat} (HC:CallOK E (callN E nn)):RegOK E (callN E nn):=by
 intro w0 m0 mb qb n ds id ops dr L rows a w K Q hd hdw h S hQ
 cases dr with
 | false=>exact wp_region_list (frame_list (F:=fun t=>∀ o∈ops.toList,o.dst≠some t) (x:=fun t=>a.tmps.getD t undef) (Q:=NormQ fun a' w'=>∃ L' rows',K L' rows'∧SIM w0 m0 mb qb n L' rows' a' w') (NormQ.out fun a' w' ha ⟨L',rows',hk,S'⟩=>hQ _ _ _ _ hk S' ha) _ _ _ (fun o ho d hd hF=>hF o ho hd) (fun t _=>rfl) (wpOps_ok H HC (fun L' rows' a' w' hk S'=>⟨L',rows',hk,S'⟩) _ _ _ _ _ hd (by unfold wpReg at h;simp only [wpOpsR_eq] at h;exact h) S))
 | true =>
  unfold wpReg at h
  simp only at h
  split at h
  ·rename_i ms hms
   unfold drawsC at hdw
   rw [hms] at hdw
   rw [dOpsR_eq] at h
   exact reg_draw H HC hd hdw h S hQ
  ·exact h.elim
theorem lib_ok (H:EnvOK E) {f:FuncId} {T:Spec} (hT:look E.lib f=some T) {args:List V} {k:V→Rows→Prop} {us:List Value} (C:Cf w0 m0 rows R m q w) (hv:VRL m q args us) (h:fzLA args rows fun as rows' => T as fun r => k r rows') :
  callable E.P f=true∧Calls E.P f us.toArray w fun e w'=>∃ u,e=.returned u∧After w0 m0 m q k u w':=by
 obtain ⟨hc,hp⟩:=H.lib f T hT
 obtain ⟨vs',rows',R',m',h1,C',hm,hv'⟩:=fzLA_ok args rows R m us _ C hv h
 exact ⟨hc,(hp w m' vs' us _ C'.sit.mem C'.sit.glob ⟨hv'.len,hv'.el⟩ h1).mono fun e w' ⟨u,r,he,hb,hk,hr⟩=>⟨u,he,r,rows',R',_,q,hk,C'.grow hb,hm.trans (C'.sit.mem.le_grow w'),Loc.Le.refl q,hr.up (Mem.Le.refl _) (noLoc_le q)⟩⟩
theorem callN_ok (H:EnvOK E):∀ n,CallOK E (callN E n):=by
 intro n
 induction n with
 | zero =>
  intro w0 m0 f args rows k R m q w us C hv h
  unfold callN at h
  cases hl:look E.lib f with
  | some T=>rw [hl] at h;exact lib_ok H hl C hv h
  | none =>
   rw [hl] at h
   simp only at h
   cases hp:look E.prims f with
   | some T=>rw [hp] at h;exact proc_ok (H.prims f T hp) C hv h
   | none=>rw [hp] at h;exact h.elim
 | succ n ih =>
  intro w0 m0 f args rows k R m q w us C hv h
  unfold callN at h
  cases hl:look E.lib f with
  | some T=>rw [hl] at h;exact lib_ok H hl C hv h
  | none =>
   rw [hl] at h
   simp only at h
   cases hp:look E.prims f with
   | some T=>rw [hp] at h;exact proc_ok (H.prims f T hp) C hv h
   | none =>
    rw [hp] at h
    simp only at h
    cases hf:look E.fns f with
    | some fi =>
     rw [hf] at h
     obtain ⟨hc,hf'⟩:=H.fns f fi hf
     simp only at h
     rcases hf' with ⟨hs,hf'⟩|⟨S,hs,hp'⟩
     rotate_left
     ·rw [hs] at h
      simp only at h
      exact hp' _ _ _ _ _ _ _ _ _ _ C hv h
     rw [hs] at h
     simp only at h
     split at h
     ·exact ⟨hc,wpFn_ok H ih (reg_ok H ih) hf' C hv h⟩
     ·obtain ⟨vs',rows',R',m',h1,C',hm,hv'⟩:=fzS_ok args rows R m us _ C hv h
      refine ⟨hc,(wpFn_ok H ih (reg_ok H ih) hf' C' hv' h1).mono fun e w' ⟨u,he,v,rows2,R2,m2,q2,g1,g2,g3,g4,g5⟩=>?_⟩
      exact ⟨u,he,v,rows2,R2,m2,q2,g1,g2,hm.trans g3,g4,g5⟩
    | none=>rw [hf] at h;exact h.elim
theorem pure_of (H:EnvOK E) (n:Nat) {f:FuncId} {fi:FnI} {T:Spec} (hf:FnOK E f fi) (h:∀ args K,T args K→wpFn E (callN E n) fi args [] fun v rows=>fzT v rows fun r _=>K r):Pure E.P f T:=by
 intro w m args us K hm hg hv hT
 have C:Cf ⟨w,[]⟩ m [] (fun _=>none) m noLoc w:=⟨.start hm hg,⟨(fun r x h=>by cases h),(fun r x h=>by simp at h),(fun r r' x x' b h=>by simp at h)⟩⟩
 refine (wpFn_ok H (callN_ok H n) (reg_ok H (callN_ok H n)) hf C ⟨hv.1,hv.2⟩ (h args K hT)).mono fun e w' ⟨u,he,v,rows',R',m',q',hk,C',hm',hq',hvu⟩=>?_
 obtain ⟨r,rows'',R'',m'',h1,C'',hm'',hr⟩:=fzT_ok C' hvu hk
 exact ⟨u,r,he,C''.sit.bel,h1,hr.up C''.sit.le (Loc.Le.refl _)⟩
end
end Gv
end PartV13
section PartV14
namespace Gv
open Go Go.RowKit Gw
variable [Glob]
abbrev Sel:=List (Option Nat × Bool)
def deadB:Row→Bool
 | .dead=>true
 | _=>false
def selOf:List (Option Nat)→Rows→Sel
 | x::s,y::r=>(x,deadB y)::selOf s r
 | _,_=>[]
def posOf (r:Nat):Nat→Sel→Option Nat
 | _,[]=>none
 | j,(some x,false)::s=>match Nat.beq x r with|true=>some j|false=>posOf r (j+1) s
 | j,_::s=>posOf r (j+1) s
def ren1 (sel:Sel) (v0 v:V):Prop :=
 match v0 with
 | .own r=>match posOf r 0 sel with|some j=>v=.own j|none=>False
 | .ptr r i o=>match posOf r 0 sel with|some j=>v=.ptr j i o|none=>False
 | .map r=>match posOf r 0 sel with|some j=>v=.map j|none=>False
 | .lit b=>v=.lit b∨v=.bool b
 | .nil=>match v with
  | .own j=>match nth sel j with|some (none,_)=>True|_=>False
  | .sl _ l=>l=[]
  | _=>v=.nil
 | .agg _=>False
 | .tup _=>False
 | .fn ..=>False
 | v0=>v=v0
def renL1 (sel:Sel):List V→List V→Prop
 | [],[]=>True
 | v0::r,v::s=>ren1 sel v0 v∧renL1 sel r s
 | _,_=>False
def renF (sel:Sel) (v0 v:V):Prop :=
 match v0,v with
 | .fn f cs,.fn g ds=>f=g∧renL1 sel cs ds
 | v0,v=>ren1 sel v0 v
def renFL (sel:Sel):List V→List V→Prop
 | [],[]=>True
 | v0::r,v::s=>renF sel v0 v∧renFL sel r s
 | _,_=>False
def renV (sel:Sel) (v0 v:V):Prop :=
 match v0,v with
 | .agg cs,.agg ds=>renL1 sel cs ds
 | .tup cs,.tup ds=>renL1 sel cs ds
 | .fn f cs,.fn g ds=>f=g∧renL1 sel cs ds
 | v0,v=>ren1 sel v0 v
def wkSlots (sel:Sel) (L:VSlots):VSlots→Prop
 | []=>True
 | (t,v)::r=>(match look L t with|some v0=>renV sel v0 v|none=>False)∧wkSlots sel L r
def wkEls (sel:Sel) (els els':List V):Prop:=els.length=els'.length∧∀ (i:Nat) x x',els[i]?=some x→els'[i]?=some x'→renL1 sel x.cells x'.cells
def wkRow (sel:Sel) (x y:Row):Prop :=
 match x,y with
 | .bx none cs,.bx none ds=>renFL sel cs ds
 | .bx (some t) cs,.bx none ds=>renFL sel cs ds
 | .bx (some t) cs,.bx (some t') ds=>t=t'∧renFL sel cs ds
 | _,.dead=>True
 | .row k els,.rowq k' els'=>k=k'∧els=els'
 | .rowq k els,.rowq k' els'=>k=k'∧wkEls sel els els'
 | .rowq k els,.row k' els'=>k=k'∧els=els'∧∀ x∈els,allPure x.cells=true
 | .row k els,y=>y=.row k els
 | .fz enc l,y=>y=.fz enc l
 | .mp kt et kk enc ents,y=>y=.mp kt et kk enc ents
 | .byt E l,y=>y=.byt E l
 | .pack Q subs,y=>y=.pack Q subs
 | _,_=>False
def wkRows (sel:Sel) (rows:Rows):List (Option Nat)→Rows→Prop
 | [],[]=>True
 | some i::s,y::r=>(match nth rows i with|some x=>wkRow sel x y|none=>False)∧wkRows sel rows s r
 | none::s,.row k []::r=>wkRows sel rows s r
 | _,_=>False
def selOK:Sel→Bool
 | []=>true
 | (some i,false)::s=>(match posOf i 0 s with|none=>true|some _=>false) && selOK s
 | _::s=>selOK s
theorem posOf_some {r:Nat}:∀ (s:Sel) (j k:Nat),posOf r j s=some k→j≤k∧s[k-j]?=some (some r,false)
 | [],j,k,h=>by simp [posOf] at h
 | (some x,false)::s,j,k,h=>by
  unfold posOf at h
  split at h
  ·rename_i e
   have:=Nat.eq_of_beq_eq_true e
   subst this;cases h;simp
  ·obtain ⟨h1,h2⟩:=posOf_some s (j+1) k h
   refine ⟨by omega,?_⟩
   rw [show k-j=(k-(j+1))+1 by omega];simpa using h2
 | (some x,true)::s,j,k,h=>by
  unfold posOf at h
  obtain ⟨h1,h2⟩:=posOf_some s (j+1) k h
  refine ⟨by omega,?_⟩
  rw [show k-j=(k-(j+1))+1 by omega];simpa using h2
 | (none,_)::s,j,k,h=>by
  unfold posOf at h
  obtain ⟨h1,h2⟩:=posOf_some s (j+1) k h
  refine ⟨by omega,?_⟩
  rw [show k-j=(k-(j+1))+1 by omega];simpa using h2
theorem posOf_mem {r:Nat}:∀ (s:Sel) (j k:Nat),s[k]?=some (some r,false)→∃ i,posOf r j s=some i
 | [],j,k,h=>by simp at h
 | (some x,false)::s,j,0,h=>by simp at h;subst h;exact ⟨j,by simp [posOf]⟩
 | (some x,false)::s,j,k+1,h=>by
  unfold posOf
  split
  ·exact ⟨_,rfl⟩
  ·exact posOf_mem s (j+1) k (by simpa using h)
 | (some x,true)::s,j,0,h=>by simp at h
 | (some x,true)::s,j,k+1,h=>by
  unfold posOf
  exact posOf_mem s (j+1) k (by simpa using h)
 | (none,b)::s,j,0,h=>by simp at h
 | (none,b)::s,j,k+1,h=>by
  unfold posOf
  exact posOf_mem s (j+1) k (by simpa using h)
theorem selOK_inj:∀ (s:Sel),selOK s=true→∀ (j k:Nat) r,s[j]?=some (some r,false)→s[k]?=some (some r,false)→j=k
 | [],_,j,k,r,h,_=>by simp at h
 | (some x,false)::s,hs,j,k,r,h1,h2=>by
  unfold selOK at hs
  rw [Bool.and_eq_true] at hs
  have hno:∀ k,s[k]?≠some (some x,false):=fun k h=>by
   obtain ⟨i,hi⟩:=posOf_mem s 0 k h
   rw [hi] at hs;simp at hs
  cases j with
  | zero =>
   simp at h1;subst h1
   cases k with
   | zero=>rfl
   | succ k=>exact absurd (by simpa using h2) (hno k)
  | succ j =>
   cases k with
   | zero=>simp at h2;subst h2;exact absurd (by simpa using h1) (hno j)
   | succ k=>rw [selOK_inj s hs.2 j k r (by simpa using h1) (by simpa using h2)]
 | (some x,true)::s,hs,j,k,r,h1,h2=>by
  unfold selOK at hs
  cases j with
  | zero=>simp at h1
  | succ j =>
   cases k with
   | zero=>simp at h2
   | succ k=>rw [selOK_inj s hs j k r (by simpa using h1) (by simpa using h2)]
 | (none,b)::s,hs,j,k,r,h1,h2=>by
  unfold selOK at hs
  cases j with
  | zero=>simp at h1
  | succ j =>
   cases k with
   | zero=>simp at h2
   | succ k=>rw [selOK_inj s hs j k r (by simpa using h1) (by simpa using h2)]
theorem selOf_get:∀ {s:List (Option Nat)} {r:Rows} {j:Nat} {x:Option Nat} {b:Bool},(selOf s r)[j]?=some (x,b)→s[j]?=some x∧∃ y,r[j]?=some y∧deadB y=b
 | [],_,j,x,b,h=>by simp [selOf] at h
 | _::_,[],j,x,b,h=>by simp [selOf] at h
 | x0::s,y::r,0,x,b,h=>by
  simp [selOf] at h
  exact ⟨by simp [h.1],y,rfl,h.2⟩
 | x0::s,y::r,j+1,x,b,h=>by
  simp only [selOf,List.getElem?_cons_succ] at h
  obtain ⟨h1,y',h2,h3⟩:=selOf_get h
  exact ⟨by simpa using h1,y',by simpa using h2,h3⟩
theorem selOf_mk:∀ {s:List (Option Nat)} {r:Rows} {j:Nat} {x:Option Nat} {y:Row},s[j]?=some x→r[j]?=some y→(selOf s r)[j]?=some (x,deadB y)
 | [],_,j,x,y,h,h'=>by simp at h
 | _::_,[],j,x,y,h,h'=>by simp at h'
 | x0::s,y0::r,0,x,y,h,h'=>by simp at h h';subst h h';rfl
 | x0::s,y0::r,j+1,x,y,h,h'=>by
  simp only [selOf,List.getElem?_cons_succ]
  exact selOf_mk (by simpa using h) (by simpa using h')
def selLoc (q:Loc) (sel:List (Option Nat)) (ks:Nat→Nat):Loc:=fun j=>match sel[j]? with
 | some (some i)=>q i
 | some none=>some (none,0,0,ks j)
 | none=>none
section
variable {m:Mem} {q:Loc} {sl:List (Option Nat)} {rs:Rows} {ks:Nat→Nat}
theorem sel_at {j r:Nat} (h:posOf r 0 (selOf sl rs)=some j):selLoc q sl ks j=q r:=by
 obtain ⟨-,h2⟩:=posOf_some _ 0 j h
 unfold selLoc
 rw [Nat.sub_zero] at h2
 rw [(selOf_get h2).1]
theorem ren1_ok {v0 v:V} {u:Value} (h:ren1 (selOf sl rs) v0 v) (hv:VR m q v0 u):VR m (selLoc q sl ks) v u:=by
 have pure:v0.pure=true→v=v0→VR m (selLoc q sl ks) v u:=fun hp e=>by subst e;exact (hv.free hp).up (Mem.Le.refl m) (noLoc_le _)
 cases v0<;>simp only [ren1] at h
 case int=>exact pure rfl h
 case bool=>exact pure rfl h
 case str=>exact pure rfl h
 case sl=>exact pure rfl h
 case raw=>exact pure rfl h
 case lit b =>
  cases hv
  rcases h with rfl|rfl
  ·exact .lit
  ·exact .bool
 case nil =>
  cases hv
  split at h
  ·rename_i j
   split at h
   ·rename_i hs
    rw [nth_eq] at hs
    refine VR.own (ob:=none) (k:=ks j) ?_
    unfold selLoc
    rw [(selOf_get hs).1]
   ·exact h.elim
  ·subst h;exact .sl0 (Nat.zero_le _) fun _=>rfl
  ·subst h;exact .nil
 case own r =>
  split at h
  ·rename_i j hj
   subst h
   cases hv with
   | own hq=>exact .own (by rw [sel_at hj];exact hq)
  ·exact h.elim
 case ptr r i o =>
  split at h
  ·rename_i j hj
   subst h
   cases hv with
   | ptr hq=>exact .ptr (by rw [sel_at hj];exact hq)
  ·exact h.elim
 case map r =>
  split at h
  ·rename_i j hj
   subst h
   cases hv with
   | map hq=>exact .map (by rw [sel_at hj];exact hq)
  ·exact h.elim
 case elt x o =>
  subst h
  cases hv with
  | elt us h3 h5 h6=>exact .elt us h3 h5 h6
theorem renL1_ok:∀ {cs ds:List V} {us:List Value},renL1 (selOf sl rs) cs ds→VRL m q cs us→VRL m (selLoc q sl ks) ds us
 | [],[],us,_,hv=>by
  obtain rfl:us=[]:=List.length_eq_zero_iff.1 (by simpa using hv.len.symm)
  exact VRL.nil
 | v0::r,v::s,us,h,hv=>by
  obtain ⟨u,us',rfl,e1,e2⟩:=hv.uncons
  exact VRL.cons (ren1_ok h.1 e1) (renL1_ok h.2 e2)
 | [],_::_,us,h,hv=>h.elim
 | _::_,[],us,h,hv=>h.elim
theorem renV_ok {v0 v:V} {u:Value} (h:renV (selOf sl rs) v0 v) (hv:VR m q v0 u):VR m (selLoc q sl ks) v u:=by
 unfold renV at h
 split at h
 ·cases hv with
  | agg hl he=>have:=renL1_ok (ks:=ks) h ⟨hl,he⟩;exact .agg this.len this.el
 ·cases hv with
  | tup hl he=>have:=renL1_ok (ks:=ks) h ⟨hl,he⟩;exact .tup this.len this.el
 ·obtain ⟨rfl,h⟩:=h
  cases hv with
  | fn hl he=>have:=renL1_ok (ks:=ks) h ⟨hl,he⟩;exact .fn this.len this.el
 ·exact ren1_ok h hv
theorem renF_ok {v0 v:V} {u:Value} (h:renF (selOf sl rs) v0 v) (hv:VR m q v0 u):VR m (selLoc q sl ks) v u:=by
 unfold renF at h
 split at h
 ·obtain ⟨rfl,h⟩:=h
  cases hv with
  | fn hl he=>have:=renL1_ok (ks:=ks) h ⟨hl,he⟩;exact .fn this.len this.el
 ·exact ren1_ok h hv
theorem renFL_len {sel:Sel}:∀ {cs ds:List V},renFL sel cs ds→cs.length=ds.length
 | [],[],_=>rfl
 | v0::r,v::s,h=>by simp [renFL_len h.2]
 | [],_::_,h=>h.elim
 | _::_,[],h=>h.elim
theorem renL1_len {sel:Sel}:∀ {cs ds:List V},renL1 sel cs ds→cs.length=ds.length
 | [],[],_=>rfl
 | v0::r,v::s,h=>by simp [renL1_len h.2]
 | [],_::_,h=>h.elim
 | _::_,[],h=>h.elim
theorem wkSlots_ok {sel:Sel} {L:VSlots}:∀ {L':VSlots},wkSlots sel L L'→∀ t v,look L' t=some v→∃ v0,look L t=some v0∧renV sel v0 v
 | [],_,t,v,h=>by simp [look] at h
 | (t',v')::r,h,t,v,hl=>by
  unfold look at hl
  split at hl
  ·rename_i e
   have:=Nat.eq_of_beq_eq_true e
   subst this;cases hl
   have h1:=h.1
   split at h1
   ·rename_i v0 hv0;exact ⟨v0,hv0,h1⟩
   ·exact h1.elim
  ·exact wkSlots_ok h.2 t v hl
theorem wkRows_ok {rows:Rows} {all:Sel}:∀ {s:List (Option Nat)} {rows':Rows},wkRows all rows s rows'→s.length=rows'.length∧∀ (j:Nat) y,rows'[j]?=some y→(∃ i x,s[j]?=some (some i)∧rows[i]?=some x∧wkRow all x y)∨∃ k,s[j]?=some none∧y=.row k []
 | [],[],_=>⟨rfl,fun j y h=>by simp at h⟩
 | some i::s,y::r,h=>by
  obtain ⟨h1,h2⟩:=wkRows_ok h.2
  refine ⟨by simp [h1],fun j z hz=>?_⟩
  cases j with
  | zero =>
   simp at hz;subst hz
   have h3:=h.1
   split at h3
   ·rename_i x hx
    rw [nth_eq] at hx
    exact .inl ⟨i,x,rfl,hx,h3⟩
   ·exact h3.elim
  | succ j=>simpa using h2 j z (by simpa using hz)
 | none::s,.row k []::r,h=>by
  obtain ⟨h1,h2⟩:=wkRows_ok (s:=s) (rows':=r) h
  refine ⟨by simp [h1],fun j z hz=>?_⟩
  cases j with
  | zero=>simp at hz;subst hz;exact .inr ⟨k,rfl,rfl⟩
  | succ j=>simpa using h2 j z (by simpa using hz)
 | [],_::_,h=>h.elim
 | some _::_,[],h=>h.elim
 | none::_,[],h=>h.elim
 | none::_,.dead::_,h=>h.elim
 | none::_,.bx _ _::_,h=>h.elim
 | none::_,.fz _ _::_,h=>h.elim
 | none::_,.mp _ _ _ _ _::_,h=>h.elim
 | none::_,.rowq _ _::_,h=>h.elim
 | none::_,.byt _ _::_,h=>h.elim
 | none::_,.pack _ _::_,h=>h.elim
 | none::_,.row _ (_::_)::_,h=>h.elim
end
theorem renL1_get {sel:Sel}:∀ {cs ds:List V},renL1 sel cs ds→∀ (j:Nat) v,ds[j]?=some v→∃ v0,cs[j]?=some v0∧ren1 sel v0 v
 | [],[],_,j,v,h=>by simp at h
 | v0::r,v::s,h,0,v',e=>by simp at e;subst e;exact ⟨v0,rfl,h.1⟩
 | v0::r,v::s,h,j+1,v',e=>by simpa using renL1_get h.2 j v' (by simpa using e)
 | [],_::_,h,_,_,_=>h.elim
 | _::_,[],h,_,_,_=>h.elim
theorem renFL_get {sel:Sel}:∀ {cs ds:List V},renFL sel cs ds→∀ (j:Nat) v,ds[j]?=some v→∃ v0,cs[j]?=some v0∧renF sel v0 v
 | [],[],_,j,v,h=>by simp at h
 | v0::r,v::s,h,0,v',e=>by simp at e;subst e;exact ⟨v0,rfl,h.1⟩
 | v0::r,v::s,h,j+1,v',e=>by simpa using renFL_get h.2 j v' (by simpa using e)
 | [],_::_,h,_,_,_=>h.elim
 | _::_,[],h,_,_,_=>h.elim
theorem wkRow_mut {sel:Sel} {x y:Row} (h:wkRow sel x y) (hm:y.mut=true):x.mut=true:=by
 unfold wkRow at h
 split at h
 ·rfl
 ·rfl
 ·rfl
 ·simp [Row.mut] at hm
 ·rfl
 ·rfl
 ·rfl
 ·rfl
 ·subst h;simp [Row.mut] at hm
 ·rfl
 ·rfl
 ·rfl
 ·exact h.elim
theorem wkRow_occ {sel:Sel} {x y:Row} (h:wkRow sel x y) (hm:y.mut=true) {q q':Loc} {i j:Nat} (hq:q' j=q i) {b:Nat} (ho:Occ q' j y b):Occ q i x b:=by
 unfold wkRow at h
 split at h
 ·exact occ_q (r:=j) hq.symm ho
 ·exact occ_q (r:=j) hq.symm ho
 ·exact occ_q (r:=j) hq.symm ho
 ·simp [Row.mut] at hm
 ·exact occ_q (r:=j) hq.symm ho
 ·exact occ_q (r:=j) hq.symm ho
 ·exact occ_q (r:=j) hq.symm ho
 ·subst h;exact occ_q (r:=j) hq.symm ho
 ·subst h;simp [Row.mut] at hm
 ·subst h;exact occ_q (r:=j) hq.symm ho
 ·subst h;exact occ_q (r:=j) hq.symm ho
 ·subst h;exact ho
 ·exact h.elim
theorem wkRow_ok {R m:Mem} {q q':Loc} {sl:List (Option Nat)} {rs:Rows} {ks:Nat→Nat} {i j:Nat} {x y:Row} (hq':q'=selLoc q sl ks) (h:wkRow (selOf sl rs) x y) (hq:q' j=q i) (hx:RowOK R m q i x):RowOK R m q' j y:=by
 unfold wkRow at h
 split at h
 ·obtain ⟨b,arr,T,h1,h2,-,h3,h4⟩:=hx
  refine ⟨b,arr,T,by rw [hq,h1,renFL_len h],h2,(fun T' e=>by cases e),by rw [h3,renFL_len h],fun k v e=>?_⟩
  obtain ⟨v0,e0,e1⟩:=renFL_get h k v e
  obtain ⟨u,g1,g2,g3⟩:=h4 k v0 e0
  exact ⟨u,g1,g2,by rw [hq'];exact renF_ok e1 g3⟩
 ·obtain ⟨b,arr,T,h1,h2,-,h3,h4⟩:=hx
  refine ⟨b,arr,T,by rw [hq,h1,renFL_len h],h2,(fun T' e=>by cases e),by rw [h3,renFL_len h],fun k v e=>?_⟩
  obtain ⟨v0,e0,e1⟩:=renFL_get h k v e
  obtain ⟨u,g1,g2,g3⟩:=h4 k v0 e0
  exact ⟨u,g1,g2,by rw [hq'];exact renF_ok e1 g3⟩
 ·obtain ⟨rfl,h⟩:=h
  obtain ⟨b,arr,T,h1,h2,hT,h3,h4⟩:=hx
  refine ⟨b,arr,T,by rw [hq,h1,renFL_len h],h2,hT,by rw [h3,renFL_len h],fun k v e=>?_⟩
  obtain ⟨v0,e0,e1⟩:=renFL_get h k v e
  obtain ⟨u,g1,g2,g3⟩:=h4 k v0 e0
  exact ⟨u,g1,g2,by rw [hq'];exact renF_ok e1 g3⟩
 ·trivial
 ·obtain ⟨rfl,rfl⟩:=h
  obtain ⟨ob,cap,h1,h2,h3,h4,h5⟩:=hx
  exact ⟨ob,cap,by rw [hq,h1],h2,h3,h4,fun b e=>let ⟨arr,T,fz,a1,a2,a3,a4⟩:=h5 b e;⟨arr,T,fz,a1,a2,a3.q,a4⟩⟩
 ·obtain ⟨rfl,hl,h⟩:=h
  obtain ⟨ob,cap,h1,h2,h3,h4,h5⟩:=hx
  refine ⟨ob,cap,by rw [hq,h1,hl],by omega,h3,h4,fun b e=>?_⟩
  obtain ⟨arr,T,fz,a1,a2,a3,a4⟩:=h5 b e
  refine ⟨arr,T,fz,a1,a2,fun i y hy=>?_,a4⟩
  have hi:=(List.getElem?_eq_some_iff.1 hy).1
  rw [←hl] at hi
  have hx:=List.getElem?_eq_getElem hi
  have hr:=h i _ _ hx hy
  obtain ⟨b1,b2⟩:=a3 i _ hx
  refine ⟨by rw [←renL1_len hr];exact b1,fun j v e=>?_⟩
  obtain ⟨v0,e0,e1⟩:=renL1_get hr j v e
  obtain ⟨u,c1,c2,c3⟩:=b2 j v0 e0
  exact ⟨u,c1,c2,by rw [hq'];exact ren1_ok e1 c3⟩
 ·obtain ⟨rfl,rfl,hp⟩:=h
  obtain ⟨ob,cap,h1,h2,h3,h4,h5⟩:=hx
  refine ⟨ob,cap,by rw [hq,h1],h2,h3,h4,fun b e=>?_⟩
  obtain ⟨arr,T,fz,a1,a2,a3,a4⟩:=h5 b e
  refine ⟨arr,T,fz,a1,a2,fun i y hy=>⟨(a3 i y hy).1,fun j v e=>?_⟩,a4⟩
  obtain ⟨u,c1,c2,c3⟩:=(a3 i y hy).2 j v e
  exact ⟨u,c1,c2,c3.free (allPure_ok _ (hp y (List.mem_of_getElem? hy)) v (List.mem_of_getElem? e))⟩
 ·subst h
  obtain ⟨ob,cap,h1,h2⟩:=hx
  exact ⟨ob,cap,by rw [hq,h1],h2⟩
 ·subst h
  obtain ⟨ob,cap,k,h1,h2⟩:=hx
  exact ⟨ob,cap,k,by rw [hq,h1],h2⟩
 ·subst h
  obtain ⟨b,es,clock,h1,h2⟩:=hx
  exact ⟨b,es,clock,by rw [hq,h1],h2⟩
 ·subst h
  obtain ⟨b,cap,arr,h1,h2⟩:=hx
  exact ⟨b,cap,arr,by rw [hq,h1],h2⟩
 ·subst h
  exact hx
 ·exact h.elim
def selPre (nb:Nat) (sel:List (Option Nat)):Bool:=(List.range nb).all fun i=>match nth sel i with|some (some j)=>Nat.beq i j|_=>false
theorem selPre_ok {nb:Nat} {sel:List (Option Nat)} (h:selPre nb sel=true) (i:Nat) (hi:i < nb):sel[i]?=some (some i):=by
 unfold selPre at h
 rw [List.all_eq_true] at h
 have:=h i (by simpa using hi)
 split at this
 ·rename_i j hj
  rw [nth_eq] at hj
  rw [hj,Nat.eq_of_beq_eq_true this]
 ·cases this
theorem wk_sel (sel:List (Option Nat)) {nb:Nat} {L L':VSlots} {rows rows':Rows} (hp:selPre nb sel=true) (h0:selOK (selOf sel rows')=true) (h1:wkRows (selOf sel rows') rows sel rows') (h2:wkSlots (selOf sel rows') L L'):Wk nb L rows L' rows':=by
 refine ⟨?_⟩
 rintro w0 m0 mb qb n a w hqb ⟨⟨R,m,q,s1,s2,s3,s4,s5⟩,s6,s7⟩
 obtain ⟨e1,e2⟩:=wkRows_ok h1
 let ks:Nat→Nat:=fun j=>match rows'[j]? with|some (.row k _)=>k|_=>0
 have case1:∀ {j i:Nat},sel[j]?=some (some i)→selLoc q sel ks j=q i:=fun h=>by unfold selLoc;rw [h]
 have case2:∀ {j:Nat},sel[j]?=some none→selLoc q sel ks j=some (none,0,0,ks j):=fun h=>by unfold selLoc;rw [h]
 refine ⟨⟨R,m,selLoc q sel ks,s1,⟨?_,?_,?_⟩,?_,s4,?_⟩,s6,s7⟩
 ·intro j x h
  rw [←e1]
  unfold selLoc at h
  cases hs:sel[j]? with
  | none=>rw [hs] at h;cases h
  | some o=>exact (List.getElem?_eq_some_iff.1 hs).1
 ·intro j y hy
  rcases e2 j y hy with ⟨i,x,g1,g2,g3⟩|⟨k,g1,rfl⟩
  ·exact wkRow_ok rfl g3 (case1 g1) (s2.row i x g2)
  ·refine ⟨none,0,?_,Nat.le_refl _,Nat.zero_le _,fun _=>rfl,fun b e=>by cases e⟩
   rw [case2 g1]
   show some (none,0,0,(match rows'[j]? with|some (.row k _)=>k|_=>0))=_
   rw [hy];rfl
 ·intro j j' y y' b hy hy' hm hm' hl hl'
  rcases e2 j y hy with ⟨i,x,g1,g2,g3⟩|⟨k,g1,rfl⟩
  ·rcases e2 j' y' hy' with ⟨i',x',g1',g2',g3'⟩|⟨k,g1',rfl⟩
   ·have hl:=wkRow_occ g3 hm (case1 g1) hl
    have hl':=wkRow_occ g3' hm' (case1 g1') hl'
    have:=s2.apart i i' x x' b g2 g2' (wkRow_mut g3 hm) (wkRow_mut g3' hm') hl hl'
    subst this
    have d1:deadB y=false:=by cases y<;>first|rfl|cases hm
    have d2:deadB y'=false:=by cases y'<;>first|rfl|cases hm'
    have e3:=selOf_mk g1 hy
    have e4:=selOf_mk g1' hy'
    rw [d1] at e3
    rw [d2] at e4
    exact selOK_inj _ h0 j j' i e3 e4
   ·obtain ⟨_,_,_,hl'⟩:=hl'
    rw [case2 g1'] at hl';cases hl'
  ·obtain ⟨_,_,_,hl⟩:=hl
   rw [case2 g1] at hl;cases hl
 ·intro t v hl
  obtain ⟨v0,g1,g2⟩:=wkSlots_ok h2 t v hl
  exact renV_ok g2 (s3 t v0 g1)
 ·intro r x h
  rw [case1 (selPre_ok hp r (hqb r x h))]
  exact s5 r x h
theorem loop_intro {nb:Nat} {W:VSlots→Rows→KE→Prop} {L:VSlots} {rows:Rows} {K:KE} {σ:Type} (S : σ→VSlots) (Rw : σ→Rows) (I : σ→Prop) (μ : σ→Nat) (s0 : σ) (h1:Wk nb L rows (S s0) (Rw s0)) (h2:I s0)
  (h3:∀ s,I s→W (S s) (Rw s) fun e L' rows'=>match e with
   | .normal=>∃ s',Wk nb L' rows' (S s') (Rw s')∧I s'∧μ s' < μ s
   | .exit id=>K (.exit id) L' rows'
   | .ret=>K .ret L' rows'):Loop nb W L rows K:=.mk S Rw I μ s0 h1 h2 h3
end Gv
end PartV14
section PartV15
namespace Gv
open Go Go.RowKit Gw
variable [Glob]
inductive LibOK (P:Program):List (Nat × Spec)→Prop
 | nil:LibOK P []
 | cons {f:Nat} {T:Spec} {l:List (Nat × Spec)} (c:callable P f=true) (p:Pure P f T) (h:LibOK P l):LibOK P ((f,T)::l)
inductive FnsOK (E:Env):List (Nat × FnI)→Prop
 | nil:FnsOK E []
 | cons {f:Nat} {T:FnI} {l:List (Nat × FnI)} (c:callable E.P f=true) (p:FnOK E f T) (h:FnsOK E l) (s:T.spec=none:=by rfl):FnsOK E ((f,T)::l)
 | told {f:Nat} {T:FnI} {S:PSpec} {l:List (Nat × FnI)} (c:callable E.P f=true) (s:T.spec=some S) (p:PrimOK E.P f S) (h:FnsOK E l):FnsOK E ((f,T)::l)
inductive PrimsOK (P:Program):List (Nat × PSpec)→Prop
 | nil:PrimsOK P []
 | cons {f:Nat} {T:PSpec} {l:List (Nat × PSpec)} (p:PrimOK P f T) (h:PrimsOK P l):PrimsOK P ((f,T)::l)
theorem LibOK.get {P:Program} {l:List (Nat × Spec)} (h:LibOK P l):∀ f T,look l f=some T→callable P f=true∧Pure P f T:=by
 induction h with
 | nil=>intro f T h;simp [look] at h
 | cons c p h ih =>
  intro f T e
  unfold look at e
  split at e
  ·rename_i e1
   have:=Nat.eq_of_beq_eq_true e1
   subst this;cases e;exact ⟨c,p⟩
  ·exact ih f T e
theorem FnsOK.get {E:Env} {l:List (Nat × FnI)} (h:FnsOK E l):∀ f T,look l f=some T→callable E.P f=true∧((T.spec=none∧FnOK E f T)∨∃ S,T.spec=some S∧PrimOK E.P f S):=by
 induction h with
 | nil=>intro f T h;simp [look] at h
 | cons c p h s ih =>
  intro f T e
  unfold look at e
  split at e
  ·rename_i e1
   have:=Nat.eq_of_beq_eq_true e1
   subst this;cases e;exact ⟨c,.inl ⟨s,p⟩⟩
  ·exact ih f T e
 | told c s p h ih =>
  intro f T e
  unfold look at e
  split at e
  ·rename_i e1
   have:=Nat.eq_of_beq_eq_true e1
   subst this;cases e;exact ⟨c,.inr ⟨_,s,p⟩⟩
  ·exact ih f T e
theorem PrimsOK.get {P:Program} {l:List (Nat × PSpec)} (h:PrimsOK P l):∀ f T,look l f=some T→PrimOK P f T:=by
 induction h with
 | nil=>intro f T h;simp [look] at h
 | cons p h ih =>
  intro f T e
  unfold look at e
  split at e
  ·rename_i e1
   have:=Nat.eq_of_beq_eq_true e1
   subst this;cases e;exact p
  ·exact ih f T e
def TysOK (P:Program) (tys:List (Nat × TI)):Prop:=∀ T i,look tys T=some i→tyOf P T=some (i.zero,i.size,i.bytes,i.agg)∧i.zero.cells.size=i.size∧∃ d,P.underlying T=some d∧kindB i.kind d=true
def eqsB (P:Program) (eqs:List (Nat × List Bool)):Bool:=eqs.all fun p=>p.2.isEmpty || flatB P p.1 p.2
theorem env_ok {P:Program} {tys:List (Nat × TI)} {lib:List (Nat × Spec)} {fns:List (Nat × FnI)} {prims:List (Nat × PSpec)} {eqs:List (Nat × List Bool)}
  (h1:P.follows .mixedOrders=true) (h2:TysOK P tys) (h3:LibOK P lib) (h4:FnsOK ⟨P,tys,lib,fns,prims,eqs⟩ fns) (h5:PrimsOK P prims) (h6:eqsB P eqs=true):EnvOK ⟨P,tys,lib,fns,prims,eqs⟩:=
 ⟨h1,h2,h3.get,h4.get,h5.get,fun T ks h=>by
  have:=List.all_eq_true.1 h6 (T,ks) (look_mem h)
  rw [Bool.or_eq_true,List.isEmpty_iff] at this
  exact this⟩
theorem pure_by {P:Program} {tys:List (Nat × TI)} {lib:List (Nat × Spec)} {fns:List (Nat × FnI)} {prims:List (Nat × PSpec)} {eqs:List (Nat × List Bool)} (H:EnvOK ⟨P, tys, lib, fns, prims, eqs⟩) (n:Nat) {f:FuncId} {fi:FnI} {T:Spec} (hf:FnOK ⟨P, tys, lib, fns, prims, eqs⟩ f fi)
  (h:∀ args K,T args K→wpFn ⟨P,tys,lib,fns,prims,eqs⟩ (callN ⟨P,tys,lib,fns,prims,eqs⟩ n) fi args [] fun v rows=>fzT v rows fun r _=>K r):Pure P f T:=pure_of H n hf h
theorem LeL.of {xs ys:List V} (h:xs=ys):LeL xs ys:=h ▸ LeL.refl xs
theorem join_intro {nb:Nat} {L:VSlots} {A:(VSlots→Rows→Prop)→Prop} {B:VSlots→Rows→Prop} {σ:Type} (S : σ→VSlots) (Rw : σ→Rows) (I : σ→Prop) (h1:A fun L' rows'=>∃ s,Wk nb L' rows' (S s) (Rw s)∧I s) (h2:∀ s,I s→B (S s) (Rw s)):Join nb L A B:=.mk S Rw I h1 h2
def pickK:List Nat→VSlots→(VSlots→Prop)→Prop
 | [],_,k=>k []
 | t::r,L,k=>match look L t with|some v=>pickK r L fun s=>k ((t,v)::s)|none=>False
theorem pickK_ok:∀ {ts:List Nat} {L:VSlots} {k:VSlots→Prop},pickK ts L k→∃ s,k s
 | [],L,k,h=>⟨[],h⟩
 | t::r,L,k,h=>by
  unfold pickK at h
  split at h
  ·obtain ⟨s,hs⟩:=pickK_ok h
   exact ⟨_,hs⟩
  ·exact h.elim
theorem loop_live (ts:List Nat) {nb:Nat} {W:VSlots→Rows→KE→Prop} {L:VSlots} {rows:Rows} {K:KE} {σ:Type} (S : σ→VSlots) (Rw : σ→Rows) (I : σ→Prop) (μ : σ→Nat) (s0 : σ)
  (h:pickK ts L fun Lk=>Wk nb L rows (S s0++Lk) (Rw s0)∧I s0∧∀ s,I s→W (S s++Lk) (Rw s) fun e L' rows'=>match e with
   | .normal=>∃ s',Wk nb L' rows' (S s'++Lk) (Rw s')∧I s'∧μ s' < μ s
   | .exit id=>K (.exit id) L' rows'
   | .ret=>K .ret L' rows'):Loop nb W L rows K:=by
 obtain ⟨Lk,h1,h2,h3⟩:=pickK_ok h
 exact .mk (fun s=>S s++Lk) Rw I μ s0 h1 h2 h3
theorem join_live (ts:List Nat) {nb:Nat} {L:VSlots} {A:(VSlots→Rows→Prop)→Prop} {B:VSlots→Rows→Prop} {σ:Type} (S : σ→VSlots) (Rw : σ→Rows) (I : σ→Prop)
  (h:pickK ts L fun Lk=>(A fun L' rows'=>∃ s,Wk nb L' rows' (S s++Lk) (Rw s)∧I s)∧∀ s,I s→B (S s++Lk) (Rw s)):Join nb L A B:=by
 obtain ⟨Lk,h1,h2⟩:=pickK_ok h
 exact .mk (fun s=>S s++Lk) Rw I h1 h2
theorem join_any {nb:Nat} {L:VSlots} {A:(VSlots→Rows→Prop)→Prop} {B:VSlots→Rows→Prop} (h:A fun L' rows'=>WkE nb L' rows' B):Join nb L A B:=.mkE h
theorem WkE.of {nb:Nat} {L L':VSlots} {rows rows':Rows} {G:VSlots→Rows→Prop} (h:Wk nb L rows L' rows') (g:G L' rows'):WkE nb L rows G:=⟨fun w0 m0 mb qb n a w hqb S=>⟨L',rows',g,h.sim _ _ _ _ _ _ _ hqb S⟩⟩
theorem prim_by {P:Program} {tys:List (Nat × TI)} {lib:List (Nat × Spec)} {fns:List (Nat × FnI)} {prims:List (Nat × PSpec)} {eqs:List (Nat × List Bool)} (H:EnvOK ⟨P, tys, lib, fns, prims, eqs⟩) (n:Nat) {f:FuncId} {fi:FnI} {T:PSpec} (hc:callable P f=true) (hf:FnOK ⟨P, tys, lib, fns, prims, eqs⟩ f fi)
  (h:∀ args rows k,T args rows k→wpFn ⟨P,tys,lib,fns,prims,eqs⟩ (callN ⟨P,tys,lib,fns,prims,eqs⟩ n) fi args rows k):PrimOK P f T :=
 fun w0 m0 args rows k R m q w us C hv hT=>⟨hc,wpFn_ok H (callN_ok H n) (reg_ok H (callN_ok H n)) hf C hv (h args rows k hT)⟩
end Gv
end PartV15
section PartV16
namespace Gv
open Go Go.RowKit Gw
variable [Glob]
def all (w:World):Mem:=fun b=>w.heap[b]?
theorem all_sub (w:World):Sub (all w) w:=fun b o h=>h
structure Fit (m:Mem) (vs:List V) (cs:List Value):Prop where
 len:vs.length=cs.length
 el:∀ (j:Nat) v,vs[j]?=some v→∃ u,cs[j]?=some u∧u.oneCell'=true∧VR m noLoc v u
structure Opn (P:Program) (t:TypeId) {α:Type} (enc : α→V) (I : α→Prop):Prop where
 op:∀ {H:Type} (e:TypeId × Value→H) (w:World) (fuel:Nat) (cs:List Value) (d:DataW H) (p:List MemPlace),DataW.trod e P w 0 (fun _=>true) true fuel t cs=some (d,p) →
  (∀ n∈d.weights P t,n≤reachBytes)→∃ a,I a∧Fit (all w) (enc a).cells cs
section
variable {P:Program} {t e:TypeId} {α:Type} {enc : α→V} {I : α→Prop} {k:Nat}
theorem fit_one {m:Mem} {v:V} {u:Value} (h1:u.oneCell'=true) (h:VR m noLoc v u) (hv:v.cells=[v]):Fit m v.cells [u]:=by
 rw [hv]
 refine ⟨rfl,fun j x hx=>?_⟩
 cases j with
 | zero=>simp at hx;subst hx;exact ⟨u,rfl,h1,h⟩
 | succ j=>simp at hx
theorem opn_int (ht:P.underlying t=some (.int .i64)):Opn P t (fun n:Int=>.int .i64 n) I64:=⟨fun en w fuel cs d p h hw=>by
 obtain ⟨n,rfl,hx,hwf⟩:=DataW.trod_int ht h
 refine ⟨n,?_,fit_one rfl .int rfl⟩
 simp [Lit.wf,IntKind.min,IntKind.max,IntKind.bits,IntKind.signed] at hwf
 exact ⟨by omega,by omega⟩⟩
theorem opn_byte (ht:P.underlying t=some (.int .u8)):Opn P t byteV (fun _=>True):=⟨fun en w fuel cs d p h hw=>by
 obtain ⟨n,rfl,hx,hwf⟩:=DataW.trod_int ht h
 simp [Lit.wf,IntKind.min,IntKind.max,IntKind.bits,IntKind.signed] at hwf
 refine ⟨UInt8.ofNat n.toNat,trivial,?_⟩
 have e:byteV (UInt8.ofNat n.toNat)=.int .u8 n:=by
  unfold byteV
  rw [UInt8.toNat_ofNat_of_lt' (by show n.toNat < 256;omega)]
  congr 1;omega
 rw [e]
 exact fit_one rfl .int rfl⟩
theorem opn_str (ht:P.underlying t=some .string):Opn P t strV (fun s=>s.length≤reachBytes):=⟨fun en w fuel cs d p h hw=>by
 obtain ⟨s,rfl,hx,hs⟩:=DataW.trod_string ht h
 have hm:s.size≤9223372036854775807:=hs
 cases hx
 refine ⟨s.data.toList,hw _ (by simp [DataW.weights]),?_⟩
 have:Value.string s=Gw.str s.data.toList:=by cases s;rfl
 rw [this]
 exact fit_one rfl (.str hm) rfl⟩
theorem weightsAll_mem {H:Type}:∀ {ds:List (DataW H)} {d:DataW H},d∈ds→∀ n∈d.weights P e,n∈DataW.weightsAll P e ds
 | d0::r,d,hd,n,hn=>by
  simp only [DataW.weightsAll,List.mem_append]
  rcases List.mem_cons.1 hd with rfl|h
  ·exact .inl hn
  ·exact .inr (weightsAll_mem h n hn)
 | [],d,hd,n,hn=>by cases hd
theorem opn_slice (ht:P.underlying t=some (.slice e)) (hk:P.cellsOf e=k) (h1:1≤k) (he:Opn P e enc I):Opn P t (fun l:List α=>V.sl enc l) (fun l=>(∀ x∈l,I x)∧l.length*P.bytesOf e≤reachBytes):=⟨fun en w fuel cs d p h hw=>by
 rcases Go.Deep.open_slice ht h with ⟨rfl,hx⟩|⟨a,len,cap,m,n,D,Pl,rfl,_,hl,hm,hmm,hx,hel⟩
 ·exact ⟨[],⟨(fun x hx=>by cases hx),by simp⟩,fit_one (v:=.sl enc []) rfl (.sl0 (Nat.zero_le _) (fun _=>rfl)) rfl⟩
 ·simp only [if_true] at hmm
  obtain rfl:m=cap:=hmm
  cases hx
  rw [hk] at hel
  have hz:m≤MAXL:=hm
  have hwt:∀ n∈(DataW.slice ((List.range len).map D) ((List.range (m-len)).map fun j=>D (len+j))).weights P t,n≤reachBytes:=hw
  simp only [DataW.weights,ht,List.mem_cons,List.mem_append] at hwt
  have hsz:len*P.bytesOf e≤reachBytes:=by
   have:=hwt _ (.inl rfl)
   simp only [List.length_map,List.length_range] at this
   exact Nat.le_trans (Nat.mul_le_mul_right _ (by omega)) this
  have h2:∀ i:Nat,i < len→∃ y,I y∧∃ cs':List Value,cs'.length=k∧(∀ j,j < k→w.cell? (a.add (i*k+j))=cs'[j]?)∧Fit (all w) (enc y).cells cs':=fun i hi=>by
   obtain ⟨cs',h3,h4⟩:=hel i (by omega)
   obtain ⟨_,hlen,hc⟩:=World.cells?_some h3
   obtain ⟨y,hI,hy⟩:=he.op en w n cs' _ _ h4 fun q hq=>hwt q (.inr (.inl (weightsAll_mem (List.mem_map.2 ⟨i,by simpa using hi,rfl⟩) q hq)))
   exact ⟨y,hI,cs',hlen,fun j hj=>by rw [←hc j hj,Go.Deep.add_add],hy⟩
  rcases Nat.eq_zero_or_pos len with rfl|hpos
  ·exact ⟨[],⟨(fun x hx=>by cases hx),by simp⟩,fit_one (v:=.sl enc []) rfl (.sl0 hz (fun h=>by cases h)) rfl⟩
  obtain ⟨y0,I0,cs0,l0,c0,_⟩:=h2 0 hpos
  haveI:Inhabited α:=⟨y0⟩
  obtain ⟨f,hf⟩:=Go.Deep.choose_lt h2
  have hc0:=c0 0 (by omega)
  rw [List.getElem?_eq_getElem (by omega)] at hc0
  have hsp:=World.cell?_spot hc0
  obtain ⟨b,off,sp⟩:=a
  have hsp':sp=Option.none:=by simpa [Addr.add] using hsp
  subst hsp'
  have hb:∃ arr T fz,w.heap[b]?=some (.cells arr T fz):=by
   simp only [add_none,World.cell?] at hc0
   split at hc0
   ·rename_i c T fz hc;exact ⟨c,T,fz,hc⟩
   ·cases hc0
  obtain ⟨arr,T,fz,hb⟩:=hb
  have hlen:((List.range len).map f).length=len:=by simp
  refine ⟨(List.range len).map f,⟨fun x hx=>?_,by rw [hlen];exact hsz⟩,?_⟩
  ·obtain ⟨i,hi,rfl⟩:=List.mem_map.1 hx
   exact (hf i (by simpa using hi)).1
  have hfu:∀ i (hi:i < len) (j:Nat) v,(enc (f i)).cells[j]?=some v→∃ u,arr[off+i*k+j]?=some u∧u.oneCell'=true∧VR (all w) noLoc v u:=fun i hi j v hv=>by
   obtain ⟨_,cs',h3,h4,h5⟩:=hf i hi
   obtain ⟨u,g1,g2,g3⟩:=h5.el j v hv
   have hj:j < k:=by rw [←h3,←h5.len];exact (List.getElem?_eq_some_iff.1 hv).1
   refine ⟨u,?_,g2,g3⟩
   rw [←g1,←h4 j hj]
   simp only [add_none,World.cell?,hb,Option.isSome_none,Bool.false_eq_true,if_false]
   congr 1
   omega
  have hx:∀ i:Nat,∃ us:Nat→Value,i < len→∀ (j:Nat) v,(enc (f i)).cells[j]?=some v→arr[off+i*k+j]?=some (us j)∧(us j).oneCell'=true∧VR (all w) noLoc v (us j):=fun i=>by
   by_cases hi:i < len
   ·refine ⟨fun j=>arr.getD (off+i*k+j) undef,fun _ j v hv=>?_⟩
    obtain ⟨u,g1,g2,g3⟩:=hfu i hi j v hv
    have:arr.getD (off+i*k+j) undef=u:=by rw [Array.getD_eq_getD_getElem?,g1];rfl
    dsimp only
    rw [this]
    exact ⟨g1,g2,g3⟩
   ·exact ⟨fun _=>undef,fun h=>absurd h hi⟩
  obtain ⟨us,hus⟩:=Classical.axiomOfChoice hx
  have hget:∀ i (h:i < ((List.range len).map f).length),((List.range len).map f)[i]=f i:=fun i h=>by simp
  have VRx:VR (all w) noLoc (.sl enc ((List.range len).map f)) (.slice (some ⟨b,off,none⟩) ((List.range len).map f).length m):=by
   refine .sl (k:=k) us (by rw [hlen];exact hl) hz (show all w b=_ from hb) (fun i hi=>?_) (fun i hi j v hv=>?_) (fun i hi j v hv=>?_)
   ·rw [hget]
    rw [hlen] at hi
    obtain ⟨_,cs',h3,_,h5⟩:=hf i hi
    rw [h5.len,h3]
   ·rw [hget] at hv
    rw [hlen] at hi
    exact ⟨(hus i hi j v hv).1,(hus i hi j v hv).2.1⟩
   ·rw [hget] at hv
    rw [hlen] at hi
    exact (hus i hi j v hv).2.2
  rw [hlen] at VRx
  exact fit_one rfl VRx rfl⟩
theorem Fit.nil {m:Mem}:Fit m [] []:=⟨rfl,fun j v h=>by simp at h⟩
theorem Fit.append {m:Mem} {vs ws:List V} {cs ds:List Value} (h:Fit m vs cs) (g:Fit m ws ds):Fit m (vs++ws) (cs++ds):=by
 refine ⟨by simp [h.len,g.len],fun j v hv=>?_⟩
 by_cases hj:j < vs.length
 ·rw [List.getElem?_append_left hj] at hv
  obtain ⟨u,e1,e2⟩:=h.el j v hv
  exact ⟨u,by rw [List.getElem?_append_left (by rw [←h.len];exact hj)];exact e1,e2⟩
 ·rw [List.getElem?_append_right (by omega)] at hv
  obtain ⟨u,e1,e2⟩:=g.el _ v hv
  exact ⟨u,by rw [List.getElem?_append_right (by rw [←h.len];omega),←h.len];exact e1,e2⟩
theorem Fit.cons {m:Mem} {vs ws:List V} {cs:List Value} (o o':Nat) (h:Fit m vs ((cs.drop o).take k)) (ho:o+k=o') (g:Fit m ws (cs.drop o')):Fit m (vs++ws) (cs.drop o):=by
 have:cs.drop o=(cs.drop o).take k++cs.drop o':=by
  subst ho
  rw [←List.drop_drop,List.take_append_drop]
 rw [this]
 exact h.append g
theorem Fit.last {m:Mem} {cs:List Value} (o:Nat) (h:cs.length=o):Fit m [] (cs.drop o):=by
 rw [List.drop_eq_nil_of_le (by omega)]
 exact Fit.nil
theorem opn_field {H:Type} {en:TypeId × Value→H} {w:World} {fuel:Nat} (i o k:Nat) {T:TypeId} {fs:Array Field} {f:Field} {cs:List Value} {d:DataW H} {p:List MemPlace} (ht:P.underlying t=some (.struct fs)) (hf:fs[i]?=some f) (hT:f.type=T) (ho:f.offset=o) (hk:P.cellsOf T=k) (hO:Opn P T enc I)
  (h:DataW.trod en P w 0 (fun _=>true) true fuel t cs=some (d,p)) (hw:∀ n∈d.weights P t,n≤reachBytes):∃ a,I a∧Fit (all w) (enc a).cells ((cs.drop o).take k):=by
 subst hT ho hk
 obtain ⟨xs,n,_,hx0,_,hl,hx⟩:=DataW.trod_struct ht h
 have hi:i < fs.size:=(Array.getElem?_eq_some_iff.1 hf).1
 have hq:=hx i f hf
 rw [List.getElem?_eq_getElem (by omega)] at hq
 refine hO.op en w n _ _ _ hq fun q hq=>hw q ?_
 cases hx0
 simp only [DataW.weights,ht]
 refine DataW.weights_mem_each (j:=i) (t:=f.type) (d:=xs[i].1) ?_ ?_ q hq
 ·rw [List.getElem?_map,Array.getElem?_toList,hf];rfl
 ·rw [List.getElem?_map,List.getElem?_eq_getElem (by omega)];rfl
theorem opn_width {H:Type} {en:TypeId × Value→H} {w:World} {fuel:Nat} {fs:Array Field} {cs:List Value} {x:DataW H × List MemPlace} (ht:P.underlying t=some (.struct fs))
  (h:DataW.trod en P w 0 (fun _=>true) true fuel t cs=some x):cs.length=P.cellsOf t:=by
 obtain ⟨xs,n,_,_,h,_⟩:=DataW.trod_struct ht h
 exact h
theorem opn_val {H:Type} {en:TypeId × Value→H} {w:World} {v:Value} {d:DataW H} {ps:List MemPlace} (hO:Opn P t enc I) (h:DataW.Trod en P w 0 (fun _=>true) true t v d ps) (hw:∀ n∈d.weights P t,n≤reachBytes):∃ a,I a∧Fit (all w) (enc a).cells v.cells.toList:=by
 obtain ⟨fuel,hf⟩:=h
 exact hO.op en w fuel _ _ _ hf hw
theorem fit_val {m:Mem} {x:V} {v:Value} (hx:x.cells=[x]) (hv:v.cells=#[v]) (h:Fit m x.cells v.cells.toList):VR m noLoc x v:=by
 rw [hx,hv] at h
 obtain ⟨u,h1,h2,h3⟩:=h.el 0 x rfl
 simp at h1
 subst h1;exact h3
theorem fit_agg {m:Mem} {xs:List V} {cs:Array Value} (h:Fit m xs cs.toList):VR m noLoc (.agg xs) (.agg cs):=by
 have:cs=cs.toList.toArray:=by simp
 rw [this]
 refine .agg h.len fun i v u h1 h2=>?_
 obtain ⟨u',e1,_,e2⟩:=h.el i v h1
 rw [e1] at h2;cases h2;exact e2
end
theorem arg_one {P:Program} {t:TypeId} {α:Type} {enc : α→V} {I : α→Prop} {H:Type} {en:TypeId × Value→H} {w:World} {v:Value} {d:DataW H} {ps:List MemPlace} (hO:Opn P t enc I) (hx:∀ a,(enc a).cells=[enc a]) (hv:v.cells=#[v]) (h:DataW.Trod en P w 0 (fun _=>true) true t v d ps) (hw:∀ n∈d.weights P t,n≤reachBytes):∃ a,I a∧VR (all w) noLoc (enc a) v:=by
 obtain ⟨a,h1,h2⟩:=opn_val hO h hw
 exact ⟨a,h1,fit_val (hx a) hv h2⟩
section
open Go.WideShapes
variable {P:Program} {t e:TypeId} {α:Type} {I : α→Prop} {H:Type} {en:TypeId × Value→H} {w:World} {v:Value} {d:DataW H} {ps:List MemPlace} {base:Nat}
theorem arg_slice {enc : α→V} {I:List α→Prop} (ht:P.underlying t=some (.slice e)) (hval:Value.okWide P w .any base t v) (hO:Opn P t (fun l:List α=>V.sl enc l) I) (h:DataW.Trod en P w 0 (fun _=>true) true t v d ps) (hw:∀ n∈d.weights P t,n≤reachBytes):∃ a,I a∧VR (all w) noLoc (.sl enc a) v:=by
 obtain ⟨a,l,c,rfl⟩:=okWide_slice ht hval
 exact arg_one hO (fun _=>rfl) rfl h hw
theorem arg_int {k:IntKind} {enc : α→V} (ht:P.underlying t=some (.int k)) (hval:Value.okWide P w .any base t v) (hO:Opn P t enc I) (hx:∀ a,(enc a).cells=[enc a]) (h:DataW.Trod en P w 0 (fun _=>true) true t v d ps) (hw:∀ n∈d.weights P t,n≤reachBytes):∃ a,I a∧VR (all w) noLoc (enc a) v:=by
 obtain ⟨a,rfl⟩:=okWide_int ht hval
 exact arg_one hO hx rfl h hw
theorem arg_str (ht:P.underlying t=some .string) (hval:Value.okWide P w .any base t v) (h:DataW.Trod en P w 0 (fun _=>true) true t v d ps) (hw:∀ n∈d.weights P t,n≤reachBytes):∃ a,a.length≤reachBytes∧VR (all w) noLoc (.str a) v:=by
 obtain ⟨a,rfl⟩:=okWide_string ht hval
 exact arg_one (opn_str ht) (fun _=>rfl) rfl h hw
theorem arg_struct {fs:Array Field} {cells : α→List V} (ht:P.underlying t=some (.struct fs)) (hval:Value.okWide P w .any base t v) (hO:Opn P t (fun a=>.agg (cells a)) I) (h:DataW.Trod en P w 0 (fun _=>true) true t v d ps) (hw:∀ n∈d.weights P t,n≤reachBytes):∃ a,I a∧VR (all w) noLoc (.agg (cells a)) v:=by
 obtain ⟨cs,rfl,_⟩:=okWide_struct ht hval
 obtain ⟨a,h1,h2⟩:=opn_val hO h hw
 exact ⟨a,h1,fit_agg h2⟩
end
theorem law_calls {P:Program} {f:FuncId} {T:Spec} (hp:Pure P f T) (w:World) (hg:Glob.mem.Le (all w)) {args:List V} {us:List Value} (hl:args.length=us.length) (h:∀ (i:Nat) v u, args[i]?=some v→us[i]?=some u→VR (all w) noLoc v u) (hT:T args fun r => r=.bool true) :
  Calls P f us.toArray w fun e w'=>e=.returned (.bool true)∧Bel [] w w':=by
 refine (hp w (all w) args us (fun r=>r=.bool true) (all_sub w) hg ⟨hl,h⟩ hT).mono fun e w' ⟨u,r,h1,h2,h3,h4⟩=>?_
 subst h1 h3
 cases h4
 exact ⟨rfl,h2⟩
theorem vr_nil {m:Mem}:∀ (i:Nat) v u,([]:List V)[i]?=some v→([]:List Value)[i]?=some u→VR m noLoc v u:=fun i v u h=>by simp at h
theorem vr_cons {m:Mem} {x:V} {y:Value} {xs:List V} {ys:List Value} (h:VR m noLoc x y) (g:∀ (i:Nat) v u,xs[i]?=some v→ys[i]?=some u→VR m noLoc v u):∀ (i:Nat) v u,(x::xs)[i]?=some v→(y::ys)[i]?=some u→VR m noLoc v u:=fun i v u h1 h2=>by
 cases i with
 | zero=>simp at h1 h2;subst h1 h2;exact h
 | succ i=>exact g i v u (by simpa using h1) (by simpa using h2)
end Gv
end PartV16
section PartV17
namespace Gv
open Go Go.RowKit Gw
variable [Glob]
def numsOf (l:List UInt8):List Int:=l.map fun b=>(b.toNat:Int)
theorem numsOf_length (l:List UInt8):(numsOf l).length=l.length:=by simp [numsOf]
theorem bytesOf_nums (l:List UInt8):Lib.bytesOf (numsOf l)=l:=by
 unfold Lib.bytesOf numsOf
 rw [List.map_map]
 conv=>rhs;rw [←List.map_id l]
 refine List.map_congr_left fun b hb=>?_
 simp
theorem bytes_open {w:World} {m:Mem} {q:Loc} {l:List UInt8} {u:Value} (h:VR m q (.sl byteV l) u) (hm:Sub m w):∃ p c, u=.slice p l.length c∧(p=none→l=[]∧c=0)∧l.length≤c∧c≤MAXL ∧
  ∀ b o sp,p=some ⟨b,o,sp⟩→(sp=none∨l=[])∧∀ i,i < l.length→w.cell? (Addr.add ⟨b,o,sp⟩ i)=some (.int .u8 ((numsOf l).getD i 0)):=by
 cases h with
 | @sl0 _ _ _ oa cap hc h0 =>
  refine ⟨oa,cap,rfl,fun h=>⟨rfl,h0 h⟩,by simp,hc,fun b o sp h=>⟨.inr rfl,fun i hi=>by simp at hi⟩⟩
 | @sl _ _ _ _ b off arr T fz cap k us h1 h2 h3 h4 h5 h6 =>
  refine ⟨_,_,rfl,(fun h=>by cases h),h1,h2,fun b' o' sp' h=>?_⟩
  cases h
  refine ⟨.inl rfl,fun i hi=>?_⟩
  have hk:k=1:=by rw [←h4 i hi];rfl
  subst hk
  have e:=h5 i hi 0 (byteV l[i]) (by simp [byteV,V.cells])
  have e2:=h6 i hi 0 (byteV l[i]) (by simp [byteV,V.cells])
  rw [Gw.add_none]
  have hb:=hm _ _ h3
  simp only [World.cell?,hb,Option.isSome_none,Bool.false_eq_true,if_false]
  have e3:us i 0=.int .u8 (l[i].toNat:Int):=by
   generalize us i 0=u at e2
   unfold byteV at e2
   cases e2;rfl
  rw [show off+i=off+i*1+0 by omega,e.1,e3]
  congr 2
  simp [numsOf,hi]
theorem pure_look {P:Program} {f:FuncId} {T:Spec} (h:∀ (w:World) (m:Mem) (args:List V) (us:List Value) (K:V→Prop), Sub m w→Glob.mem.Le m→args.length=us.length→(∀ (i:Nat) v u, args[i]?=some v→us[i]?=some u→VR m noLoc v u)→T args K →
  ∃ r u,K r∧VR m noLoc r u∧Calls P f us.toArray w fun e w'=>e=.returned u∧Bel [] w w'):Pure P f T:=by
 intro w m args us K hm hg hv hT
 obtain ⟨r,u,hK,hr,hc⟩:=h w m args us K hm hg hv.1 hv.2 hT
 exact hc.mono fun e w' ⟨he,hb⟩=>⟨u,r,he,hb,hK,hr.up (hm.le_grow w') (Loc.Le.refl _)⟩
theorem args1 {m:Mem} {v:V} {us:List Value} (hl:[v].length=us.length) (h:∀ (i:Nat) x u,[v][i]?=some x→us[i]?=some u→VR m noLoc x u):∃ a,us=[a]∧VR m noLoc v a:=by
 match us,hl with
 | [a],_=>exact ⟨a,rfl,h 0 _ _ rfl rfl⟩
theorem args2 {m:Mem} {v v':V} {us:List Value} (hl:[v,v'].length=us.length) (h:∀ (i:Nat) x u,[v,v'][i]?=some x→us[i]?=some u→VR m noLoc x u):∃ a b,us=[a,b]∧VR m noLoc v a∧VR m noLoc v' b:=by
 match us,hl with
 | [a,b],_=>exact ⟨a,b,rfl,h 0 _ _ rfl rfl,h 1 _ _ rfl rfl⟩
theorem args3 {m:Mem} {v v' v'':V} {us:List Value} (hl:[v,v',v''].length=us.length) (h:∀ (i:Nat) x u,[v,v',v''][i]?=some x→us[i]?=some u→VR m noLoc x u):∃ a b c,us=[a,b,c]∧VR m noLoc v a∧VR m noLoc v' b∧VR m noLoc v'' c:=by
 match us,hl with
 | [a,b,c],_=>exact ⟨a,b,c,rfl,h 0 _ _ rfl rfl,h 1 _ _ rfl rfl,h 2 _ _ rfl rfl⟩
end Gv
end PartV17
section PartV18
namespace Gv
open Go Go.RowKit Gw
variable [Glob]
theorem Wk.trans {nb:Nat} {L L' L'':VSlots} {r r' r'':Rows} (h:Wk nb L r L' r') (k:Wk nb L' r' L'' r''):Wk nb L r L'' r'':=⟨fun w0 m0 mb qb n a w hq S=>k.sim w0 m0 mb qb n a w hq (h.sim w0 m0 mb qb n a w hq S)⟩
section
variable {α:Type}
end
end Gv
end PartV18
section PartV19
namespace Gv
open Go Go.RowKit Gw
variable [Glob]
abbrev Fnd:=List (Option (Option Nat))
abbrev FK:=Fnd→Prop
def fsetK (acc:Fnd):Nat→Option Nat→FK→Prop :=
 List.rec (motive:=fun _=>Nat→Option Nat→FK→Prop) (fun _ _ k=>k []) (fun x r ih j o k=>match j with
  | 0=>(match x with|none=>k (some o::r)|some y=>k (some y::r))
  | j+1=>ih j o fun r'=>k (x::r')) acc
def fnd1K (v0 v:V) (acc:Fnd) (k:FK):Prop:=match v with
 | .own j=>(match v0 with|.own i=>fsetK acc j (some i) k|.nil=>fsetK acc j none k|_=>k acc)
 | .ptr j _ _=>(match v0 with|.ptr i _ _=>fsetK acc j (some i) k|_=>k acc)
 | .map j=>(match v0 with|.map i=>fsetK acc j (some i) k|_=>k acc)
 | _=>k acc
def fndLK (g:V→V→Fnd→FK→Prop) (vs:List V):List V→Fnd→FK→Prop :=
 List.rec (motive:=fun _=>List V→Fnd→FK→Prop) (fun _ acc k=>k acc) (fun v _ ih us acc k=>match us with
  | []=>k acc
  | u::us=>g u v acc fun acc'=>ih us acc' k) vs
def fndVK (v0 v:V) (acc:Fnd) (k:FK):Prop:=match v with
 | .agg cs=>(match v0 with|.agg ds=>fndLK fnd1K cs ds acc k|_=>k acc)
 | .tup cs=>(match v0 with|.tup ds=>fndLK fnd1K cs ds acc k|_=>k acc)
 | .fn _ cs=>(match v0 with|.fn _ ds=>fndLK fnd1K cs ds acc k|_=>k acc)
 | _=>fnd1K v0 v acc k
def fndSK (L:VSlots) (L':VSlots):Fnd→FK→Prop :=
 List.rec (motive:=fun _=>Fnd→FK→Prop) (fun acc k=>k acc) (fun p _ ih acc k=>match look L p.1 with
  | some v0=>fndVK v0 p.2 acc fun acc'=>ih acc' k
  | none=>ih acc k) L'
def fndRK (rows:Rows) (all:Fnd) (rows':Rows):Nat→Fnd→FK→Prop :=
 List.rec (motive:=fun _=>Nat→Fnd→FK→Prop) (fun _ acc k=>k acc) (fun y _ ih j acc k=>match nth all j with
  | some (some (some i))=>(match y,nth rows i with
   | .bx _ cs,some (.bx _ ds)=>fndLK fndVK cs ds acc fun acc'=>ih (j+1) acc' k
   | _,_=>ih (j+1) acc k)
  | _=>ih (j+1) acc k) rows'
def iotaK (rows':Rows):Nat→Nat→FK→Prop :=
 List.rec (motive:=fun _=>Nat→Nat→FK→Prop) (fun _ _ k=>k []) (fun _ _ ih j nb k=>match nb with
  | 0=>ih j 0 fun r=>k (none::r)
  | n+1=>numK j fun j=>ih (j+1) n fun r=>k (some (some j)::r)) rows'
def memF (i:Nat) (acc:Fnd):Bool :=
 match acc with
 | []=>false
 | x::r=>match x with
  | some (some k)=>(match Nat.beq i k with|true=>true|false=>memF i r)
  | _=>memF i r
def restK (rows:Rows) (all:Fnd) (acc:Fnd):Nat→(List (Option Nat)→Prop)→Prop :=
 List.rec (motive:=fun _=>Nat→(List (Option Nat)→Prop)→Prop) (fun _ k=>k []) (fun x _ ih j k=>match x with
  | some y=>(match y with|some i=>ih (j+1) fun r=>k (some i::r)|none=>ih (j+1) fun r=>k (none::r))
  | none=>(match nth rows j,memF j all with
   | some _,false=>numK j fun j=>ih (j+1) fun r=>k (some j::r)
   | _,_=>ih (j+1) fun r=>k (none::r))) acc
theorem fsetK_ok:∀ {acc:Fnd} {j:Nat} {o:Option Nat} {k:FK},fsetK acc j o k→∃ a,k a
 | [],j,o,k,h=>⟨_,h⟩
 | x::r,0,o,k,h=>by
  have h':(match (generalizing:=false) x with|none=>k (some o::r)|some y=>k (some y::r)):=h
  split at h'<;>exact ⟨_,h'⟩
 | x::r,j+1,o,k,h=>fsetK_ok (acc:=r) (k:=fun r'=>k (x::r')) h |>.elim fun a ha=>⟨_,ha⟩
theorem fnd1K_ok {v0 v:V} {acc:Fnd} {k:FK} (h:fnd1K v0 v acc k):∃ a,k a:=by
 unfold fnd1K at h
 split at h
 ·split at h<;>first|exact fsetK_ok h|exact ⟨_,h⟩
 ·split at h<;>first|exact fsetK_ok h|exact ⟨_,h⟩
 ·split at h<;>first|exact fsetK_ok h|exact ⟨_,h⟩
 ·exact ⟨_,h⟩
theorem fndLK_ok {g:V→V→Fnd→FK→Prop} (G:∀ v0 v acc k,g v0 v acc k→∃ a,k a):∀ {vs us:List V} {acc:Fnd} {k:FK},fndLK g vs us acc k→∃ a,k a
 | [],us,acc,k,h=>⟨_,h⟩
 | v::r,[],acc,k,h=>⟨_,h⟩
 | v::r,u::us,acc,k,h=>by
  obtain ⟨a,ha⟩:=G u v acc _ h
  exact fndLK_ok G (vs:=r) ha
theorem fndVK_ok {v0 v:V} {acc:Fnd} {k:FK} (h:fndVK v0 v acc k):∃ a,k a:=by
 unfold fndVK at h
 split at h
 ·split at h<;>first|exact fndLK_ok (g:=fnd1K) (fun _ _ _ _=>fnd1K_ok) h|exact ⟨_,h⟩
 ·split at h<;>first|exact fndLK_ok (g:=fnd1K) (fun _ _ _ _=>fnd1K_ok) h|exact ⟨_,h⟩
 ·split at h<;>first|exact fndLK_ok (g:=fnd1K) (fun _ _ _ _=>fnd1K_ok) h|exact ⟨_,h⟩
 ·exact fnd1K_ok h
theorem fndSK_ok {L:VSlots}:∀ {L':VSlots} {acc:Fnd} {k:FK},fndSK L L' acc k→∃ a,k a
 | [],acc,k,h=>⟨_,h⟩
 | p::r,acc,k,h=>by
  have h':(match (generalizing:=false) look L p.1 with|some v0=>fndVK v0 p.2 acc fun acc'=>fndSK L r acc' k|none=>fndSK L r acc k):=h
  split at h'
  ·obtain ⟨a,ha⟩:=fndVK_ok h'
   exact fndSK_ok ha
  ·exact fndSK_ok h'
theorem fndRK_ok {rows:Rows} {all:Fnd}:∀ {rows':Rows} {j:Nat} {acc:Fnd} {k:FK},fndRK rows all rows' j acc k→∃ a,k a
 | [],j,acc,k,h=>⟨_,h⟩
 | y::r,j,acc,k,h=>by
  have h':(match (generalizing:=false) nth all j with
   | some (some (some i))=>(match (generalizing:=false) y,nth rows i with
    | .bx _ cs,some (.bx _ ds)=>fndLK fndVK cs ds acc fun acc'=>fndRK rows all r (j+1) acc' k
    | _,_=>fndRK rows all r (j+1) acc k)
   | _=>fndRK rows all r (j+1) acc k):=h
  split at h'
  ·split at h'
   ·obtain ⟨a,ha⟩:=fndLK_ok (g:=fndVK) (fun _ _ _ _=>fndVK_ok) h'
    exact fndRK_ok ha
   ·exact fndRK_ok h'
  ·exact fndRK_ok h'
theorem iotaK_ok:∀ {rows':Rows} {j nb:Nat} {k:FK},iotaK rows' j nb k→∃ a,k a
 | [],j,nb,k,h=>⟨_,h⟩
 | x::r,j,0,k,h=>iotaK_ok (rows':=r) (k:=fun r=>k (none::r)) h |>.elim fun a ha=>⟨_,ha⟩
 | x::r,j,n+1,k,h=>by
  have h':numK j fun j=>iotaK r (j+1) n fun r=>k (some (some j)::r):=h
  exact iotaK_ok (numK_eq _ (fun j=>iotaK r (j+1) n fun r=>k (some (some j)::r)) h') |>.elim fun a ha=>⟨_,ha⟩
theorem restK_ok {rows:Rows} {all:Fnd}:∀ {acc:Fnd} {j:Nat} {k:List (Option Nat)→Prop},restK rows all acc j k→∃ a,k a
 | [],j,k,h=>⟨_,h⟩
 | x::r,j,k,h=>by
  have h':(match (generalizing:=false) x with
   | some y=>(match (generalizing:=false) y with|some i=>restK rows all r (j+1) fun r=>k (some i::r)|none=>restK rows all r (j+1) fun r=>k (none::r))
   | none=>(match (generalizing:=false) nth rows j,memF j all with
    | some _,false=>numK j fun j=>restK rows all r (j+1) fun r=>k (some j::r)
    | _,_=>restK rows all r (j+1) fun r=>k (none::r))):=h
  split at h'
  ·split at h'
   ·exact restK_ok h' |>.elim fun a ha=>⟨_,ha⟩
   ·exact restK_ok h' |>.elim fun a ha=>⟨_,ha⟩
  ·split at h'
   ·exact restK_ok (numK_eq _ (fun j=>restK rows all r (j+1) fun r=>k (some j::r)) h') |>.elim fun a ha=>⟨_,ha⟩
   ·exact restK_ok h' |>.elim fun a ha=>⟨_,ha⟩
structure Sel4 (nb:Nat) (L:VSlots) (rows:Rows) (L':VSlots) (rows':Rows) (sel:List (Option Nat)):Prop where
 mk ::
 a:selPre nb sel=true
 b:selOK (selOf sel rows')=true
 c:wkRows (selOf sel rows') rows sel rows'
 d:wkSlots (selOf sel rows') L L'
theorem wk_auto {nb:Nat} {L L':VSlots} {rows rows':Rows} (h:iotaK rows' 0 nb fun a=>fndSK L L' a fun a=>fndRK rows a rows' 0 a fun b=>fndRK rows b rows' 0 b fun c=>fndRK rows c rows' 0 c fun d=>restK rows d d 0 (Sel4 nb L rows L' rows')):Wk nb L rows L' rows':=by
 obtain ⟨a,h⟩:=iotaK_ok h
 obtain ⟨b,h⟩:=fndSK_ok h
 obtain ⟨c,h⟩:=fndRK_ok h
 obtain ⟨d,h⟩:=fndRK_ok h
 obtain ⟨e,h⟩:=fndRK_ok h
 obtain ⟨s,h1,h2,h3,h4⟩:=restK_ok h
 exact wk_sel s h1 h2 h3 h4
end Gv
end PartV19
