/- What functions of the program come to, part 3: in every world; the conditions stand in each theorem. -/
import Derived.Test.YtffljdmmambdjacGreatDoorF2
set_option linter.unusedVariables false
set_option linter.unusedSectionVars false
set_option linter.unusedSimpArgs false
set_option maxHeartbeats 16000000
open Go Go.Proofs Gw Gp
namespace Gv
variable [Glob] [Laid] [Nums] [Errs]
theorem zba_:qb_ Tryz.prog 20=true:=by kernel_rfl
def q8t_:Spec:=fun args K=>∃ (m:MachS) (l:List Int) (I:MachS→Prop),args=[q7_ m,.sl intV l]∧(qm_ m=0→copyZ m∧I m∧Steps I)∧K (.tup [q7_ (runP m l).1,.sl intV (runP m l).2.1,.int .i64 (runP m l).2.2])
noncomputable def q6v_:List (Nat × Spec):=[(41,qbq_)]
noncomputable def q6u_:List (Nat × FnI):=[(54,{ fn:=Tryz.f54,spec:=some qix_ }),(55,{ fn:=Tryz.f55,spec:=some qkd_ })]
noncomputable def qwn_:List (Nat × qn_):=[]
theorem zdn_:EnvOK ⟨Tryz.prog,tys,q6v_,q6u_,qwn_,[]⟩:=qs_ qt_ tys0 (.cons qcs_ qct_ .nil) (.told qiy_ rfl qcy_ (.told qke_ rfl qdk_ .nil)) .nil rfl
theorem zbb_:Pure Tryz.prog 20 q8t_:=by
 refine qp_ zdn_ 6 (fi:={fn:=Tryz.f20,hooks:=[14,16],draws:=[]}) ⟨Tryz.func20,by kernel_rfl,by kernel_rfl⟩ ?_
 rintro _ K ⟨m,l,I,rfl,hI,hK⟩
 replace hK:∀ r,r=.tup [q7_ (runP m l).1,.sl intV (runP m l).2.1,.int .i64 (runP m l).2.2]→K r:=fun r h=>h ▸ hK
 skip
 refine ⟨m,rfl,?_⟩
 repeat' first|(refine fun (b:Bool) hb=>?_;cases b<;>first|exact absurd hb (by decide)|exact nfl hb|exact nfr hb|skip)|(refine fun (hl:_≤MAXL)=>?_)|fail
 rotate_left
 ·have h0:qm_ m=0:=by simpa using ‹(!decide (qm_ m=0))=false›
  have hl:40000<l.length:=by
   have h:=of_decide_eq_true (by assumption:decide (40000<(l.length:Int))=true)
   omega
  conv=>whnf
  refine ⟨Gp.Node,qh_,?_⟩
  refine ⟨FileS,qq_,?_⟩
  refine ⟨PipeS,qk_,?_⟩
  refine ⟨ProcS,zf_,?_⟩
  refine ⟨UInt8,qd_,?_⟩
  refine ⟨Int,intV,?_⟩
  refine hK _ ?_
  unfold runP
  rw [if_neg (by rw [h0];decide),if_pos hl]
  rfl
 ·have h0:qm_ m≠0:=by simpa using ‹(!decide (qm_ m=0))=true›
  conv=>whnf
  refine ⟨Gp.Node,qh_,?_⟩
  refine ⟨FileS,qq_,?_⟩
  refine ⟨PipeS,qk_,?_⟩
  refine ⟨ProcS,zf_,?_⟩
  refine ⟨UInt8,qd_,?_⟩
  refine ⟨Int,intV,?_⟩
  refine hK _ ?_
  unfold runP
  rw [if_pos h0]
  rfl
 have h0:qm_ m=0:=by simpa using ‹(!decide (qm_ m=0))=false›
 have hl:¬ 40000<l.length:=by
  have h:=of_decide_eq_false (by assumption:decide (40000<(l.length:Int))=false)
  omega
 obtain ⟨hz,hIm,hS⟩:=hI h0
 conv=>whnf
 refine ⟨m,rfl,hz,fun Q=>?_⟩
 conv=>whnf
 refine ql_ [2,4] (σ:=Unit) (fun _=>[(8,.own 5)]) (fun _=>[.box [.sl qh_ (xi_ l m []).1.g,.sl qq_ (xi_ l m []).1.f,.own 2,.own 3,.sl qd_ (xi_ l m []).1.sunk],.box [.nil,.nil,.nil,.nil,.nil],.row 4 ((xi_ l m []).1.pipes.map qk_),.row 5 ((xi_ l m []).1.p.map zf_),.dead,.row 1 ((xi_ l m []).2.map intV)]) (fun _=>True) ?_
 conv=>whnf
 refine ⟨?_,fun _ _=>?_⟩
 ·conv=>whnf
  repeat' first|(refine fun (hl:_≤MAXL)=>?_)|fail
  conv=>whnf
  refine qg_ [2,4,24,25] (σ:=Nat × MachS × List Int) (fun s=>[(26,.int .i64 s.1),(8,.own 5)]) (fun s=>[.box [.sl qh_ s.2.1.g,.sl qq_ s.2.1.f,.own 2,.own 3,.sl qd_ s.2.1.sunk],.box [.nil,.nil,.nil,.nil,.nil],.row 4 (s.2.1.pipes.map qk_),.row 5 (qo_ Q s.2.1.p),.pack Q (q3_ s.2.1.p),.row 1 (s.2.2.map intV)]) (fun s=>s.1≤l.length∧xi_ (l.take s.1) m []=s.2∧I s.2.1) (fun s=>l.length-s.1) (0,m,[]) ?_
  conv=>whnf
  refine ⟨(by (refine qf_ [some 0,some 1,some 2,some 3,some 4,none] rfl rfl ?_ ?_<;>(repeat' first|exact True.intro|exact rfl|exact .inl rfl|exact .inr rfl|refine And.intro ?_ ?_|fail))),⟨Nat.zero_le _,rfl,hIm⟩,fun s hs=>?_⟩
  obtain ⟨k,M,sd⟩:=s
  obtain ⟨hk,hgo,hIM⟩:=hs
  dsimp only at hk hgo hIM
  repeat' first|(refine fun (b:Bool) hb=>?_;cases b<;>first|exact absurd hb (by decide)|exact nfl hb|exact nfr hb|skip)|refine ⟨_,rfl,?_,rfl,?_⟩|fail
  ·have hkl:k=l.length := by
    have h:=of_decide_eq_false (by assumption:decide ((k:Int)<(l.length:Int))=false)
    omega
   subst hkl
   rw [List.take_length] at hgo
   refine ⟨(),?_,trivial⟩
   rw [hgo]
   exact (qdp_ 3 4 rfl rfl).trans (by (refine qf_ [some 0,some 1,some 2,some 3,some 4,some 5] rfl rfl ?_ ?_<;>(repeat' first|exact True.intro|exact rfl|exact .inl rfl|exact .inr rfl|refine And.intro ?_ ?_|fail)))
  ·have h:=of_decide_eq_true (by assumption:decide ((k:Int)<(l.length:Int))=true)
   omega
  have hk2:k<l.length:=by
   have h:=of_decide_eq_true (by assumption:decide ((k:Int)<(l.length:Int))=true)
   omega
  have hnx:xi_ (l.take (k+1)) m []=((zn_ M l[k]).1,sd++[(zn_ M l[k]).2]):=by
   rw [List.take_succ_eq_append_getElem hk2,qdh_,hgo]
  conv=>whnf
  refine ql_ [2,4,8,24,25,26] (σ:=Unit) (fun _=>[(11,.int .i64 (zn_ M l[k]).2)]) (fun _=>[.box [.sl qh_ (zn_ M l[k]).1.g,.sl qq_ (zn_ M l[k]).1.f,.own 2,.own 3,.sl qd_ (zn_ M l[k]).1.sunk],.box [.nil,.nil,.nil,.nil,.nil],.row 4 ((zn_ M l[k]).1.pipes.map qk_),.row 5 (qo_ Q (zn_ M l[k]).1.p),.pack Q (q3_ (zn_ M l[k]).1.p),.row 1 (sd.map intV)]) (fun _=>True) ?_
  conv=>whnf
  refine ⟨?_,fun _ _=>?_⟩
  ·have hout:¬ (0≤l[k]∧l[k]<(M.p.length:Int))→zn_ M l[k]=(M,5):=fun h=>by unfold zn_;rw [if_neg h]
   conv=>whnf
   repeat' first|(refine fun (b:Bool) hb=>?_;cases b<;>first|exact absurd hb (by decide)|exact nfl hb|exact nfr hb|skip)|(refine fun (hl:_≤MAXL)=>?_)|fail
   ·have hp:=hout (fun h=>of_decide_eq_false (by assumption:decide (0≤l[k])=false) h.1)
    conv=>whnf
    rw [hp]
    exact ⟨(),(by (refine qf_ [some 0,some 1,some 2,some 3,some 4,some 5] rfl rfl ?_ ?_<;>(repeat' first|exact True.intro|exact rfl|exact .inl rfl|exact .inr rfl|refine And.intro ?_ ?_|fail))),trivial⟩
   ·have hp := hout (fun h => by
     have h2:=of_decide_eq_false (by assumption:decide (l[k]<((qo_ Q M.p).length:Int))=false)
     rw [q8_] at h2
     exact h2 h.2)
    conv=>whnf
    rw [hp]
    exact ⟨(),(by (refine qf_ [some 0,some 1,some 2,some 3,some 4,some 5] rfl rfl ?_ ?_<;>(repeat' first|exact True.intro|exact rfl|exact .inl rfl|exact .inr rfl|refine And.intro ?_ ?_|fail))),trivial⟩
   ·have h1:=of_decide_eq_true (by assumption:decide (0≤l[k])=true)
    have h2:=of_decide_eq_true (by assumption:decide (l[k]<((qo_ Q M.p).length:Int))=true)
    rw [q8_] at h2
    obtain ⟨i,hi⟩:∃ i:Nat,l[k]=i:=⟨l[k].toNat,by omega⟩
    have hiM:i<M.p.length:=by omega
    have hp:zn_ M l[k]=qv_ M i:=by
     unfold zn_
     rw [if_pos ⟨h1,h2⟩,hi]
     rfl
    obtain ⟨hF,hZ,-⟩:=hS M hIM i hiM
    conv=>whnf
    refine ⟨M,i,0,2,3,4,Q,?_,rfl,rfl,rfl,rfl,hF,hZ,?_⟩
    ·show [V.ptr 0 0 0,V.int .i64 l[k]]=_
     rw [hi]
    conv=>whnf
    rw [hp]
    exact ⟨(),(by (refine qf_ [some 0,some 1,some 2,some 3,some 4,some 5] rfl rfl ?_ ?_<;>(repeat' first|exact True.intro|exact rfl|exact .inl rfl|exact .inr rfl|refine And.intro ?_ ?_|fail))),trivial⟩
  have hIn:I (zn_ M l[k]).1:=by
   unfold zn_
   split
   ·rename_i h
    exact (hS M hIM _ (by omega)).2.2
   ·exact hIM
  have hsl:sd.length=k:=by
   have:=qfv_ (l.take k) m []
   rw [hgo,List.length_take] at this
   simp at this
   omega
  conv=>whnf
  repeat' first|refine And.intro (a:=I64 _) ?_ ?_|refine And.intro (a:=_≤140737488355328) ?_ ?_|refine ⟨rfl,?_⟩|fail
  ·show ((sd.map intV).length+1)*8≤140737488355328
   rw [List.length_map]
   omega
  ·show I64 ((k:Int)+1)
   unfold I64;omega
  refine ⟨(k+1,(zn_ M l[k]).1,sd++[(zn_ M l[k]).2]),?_,⟨hk2,hnx,hIn⟩,by show l.length-(k+1)<l.length-k;omega⟩
  show Wk _ _ _ _ [.box [.sl qh_ (zn_ M l[k]).1.g,.sl qq_ (zn_ M l[k]).1.f,.own 2,.own 3,.sl qd_ (zn_ M l[k]).1.sunk],.box [.nil,.nil,.nil,.nil,.nil],.row 4 ((zn_ M l[k]).1.pipes.map qk_),.row 5 (qo_ Q (zn_ M l[k]).1.p),.pack Q (q3_ (zn_ M l[k]).1.p),.row 1 ((sd++[(zn_ M l[k]).2]).map intV)]
  rw [List.map_append]
  exact (by (refine qf_ [some 0,some 1,some 2,some 3,some 4,some 7] rfl rfl ?_ ?_<;>(repeat' first|exact True.intro|exact rfl|exact .inl rfl|exact .inr rfl|refine And.intro ?_ ?_|fail)))
 conv=>whnf
 repeat' first|refine ⟨_,_,_,LeL.refl _,?_⟩|fail
 conv=>whnf
 refine hK _ ?_
 unfold runP
 rw [if_neg (by rw [h0];decide),if_neg hl]
 rfl
end Gv
namespace Gv
variable [Glob] [Laid] [Nums] [Errs]
theorem qy8_:qb_ Tryz.prog 22=true:=by kernel_rfl
def qy7_:Spec:=fun args K=>∃ (m:MachS) (n:Nat) (rr:MachS × Int) (I:MachS→Prop),args=[q7_ m]∧((qm_ m=0→copyZ m∧I m∧Steps I∧FinN n m rr)∧(qm_ m≠0→rr=(zM,qm_ m)))∧K (.tup [q7_ rr.1,.int .i64 rr.2])
noncomputable def q41_:List (Nat × Spec):=[(41,qbq_)]
noncomputable def q40_:List (Nat × FnI):=[(54,{ fn:=Tryz.f54,spec:=some qix_ }),(55,{ fn:=Tryz.f55,spec:=some qkd_ })]
noncomputable def qvb_:List (Nat × qn_):=[]
theorem zcv_:EnvOK ⟨Tryz.prog,tys,q41_,q40_,qvb_,[]⟩:=qs_ qt_ tys0 (.cons qcs_ qct_ .nil) (.told qiy_ rfl qcy_ (.told qke_ rfl qdk_ .nil)) .nil rfl
theorem qy9_:Pure Tryz.prog 22 qy7_:=by
 refine qp_ zcv_ 6 (fi:={fn:=Tryz.f22,hooks:=[10,12,13],draws:=[]}) ⟨Tryz.func22,by kernel_rfl,by kernel_rfl⟩ ?_
 rintro _ K ⟨m,n,rr,I,rfl,⟨hI,hJ⟩,hK⟩
 replace hK:∀ r,r=.tup [q7_ rr.1,.int .i64 rr.2]→K r:=fun r h=>h ▸ hK
 skip
 refine ⟨m,rfl,?_⟩
 repeat' first|(refine fun (b:Bool) hb=>?_;cases b<;>first|exact absurd hb (by decide)|exact nfl hb|exact nfr hb|skip)|fail
 rotate_left
 ·have h0:qm_ m≠0:=by simpa using ‹(!decide (qm_ m=0))=true›
  conv=>whnf
  refine ⟨Gp.Node,qh_,?_⟩
  refine ⟨FileS,qq_,?_⟩
  refine ⟨PipeS,qk_,?_⟩
  refine ⟨ProcS,zf_,?_⟩
  refine ⟨UInt8,qd_,?_⟩
  refine hK _ ?_
  rw [hJ h0]
  rfl
 have h0:qm_ m=0:=by simpa using ‹(!decide (qm_ m=0))=false›
 obtain ⟨hz,hIm,hS,hF⟩:=hI h0
 conv=>whnf
 refine ⟨m,rfl,hz,fun Q=>?_⟩
 conv=>whnf
 refine qg_ [1,2] (σ:=Nat × MachS) (fun s=>[]) (fun s=>[.box [.sl qh_ s.2.g,.sl qq_ s.2.f,.own 2,.own 3,.sl qd_ s.2.sunk],.box [.nil,.nil,.nil,.nil,.nil],.row 4 (s.2.pipes.map qk_),.row 5 (qo_ Q s.2.p),.pack Q (q3_ s.2.p)]) (fun s=>FinN s.1 s.2 rr∧I s.2) (fun s=>s.1) (n,m) ?_
 conv=>whnf
 refine ⟨(by (refine qf_ [some 0,some 1,some 2,some 3,some 4] rfl rfl ?_ ?_<;>(repeat' first|exact True.intro|exact rfl|exact .inl rfl|exact .inr rfl|refine And.intro ?_ ?_|fail))),⟨hF,hIm⟩,fun s hs=>?_⟩
 obtain ⟨n,M⟩:=s
 obtain ⟨hF,hIM⟩:=hs
 dsimp only at hF hIM
 conv=>whnf
 refine ql_ [1,2] (σ:=MachS × Bool × Bool) (fun s=>[(5,.bool s.2.1),(6,.bool s.2.2)]) (fun s=>[.box [.sl qh_ s.1.g,.sl qq_ s.1.f,.own 2,.own 3,.sl qd_ s.1.sunk],.box [.nil,.nil,.nil,.nil,.nil],.row 4 (s.1.pipes.map qk_),.row 5 (qo_ Q s.1.p),.pack Q (q3_ s.1.p)]) (fun s=>s=rnd M∧I s.1) ?_
 conv=>whnf
 refine ⟨?_,fun s hs=>?_⟩
 ·conv=>whnf
  repeat' first|(refine fun (hl:_≤MAXL)=>?_)|fail
  conv=>whnf
  refine qg_ [1,2,18] (σ:=Nat × MachS × Bool × Bool) (fun s=>[(5,.bool s.2.2.1),(6,.bool s.2.2.2),(19,.int .i64 s.1)]) (fun s=>[.box [.sl qh_ s.2.1.g,.sl qq_ s.2.1.f,.own 2,.own 3,.sl qd_ s.2.1.sunk],.box [.nil,.nil,.nil,.nil,.nil],.row 4 (s.2.1.pipes.map qk_),.row 5 (qo_ Q s.2.1.p),.pack Q (q3_ s.2.1.p)]) (fun s=>s.1≤M.p.length∧wy_ ((List.range M.p.length).drop s.1) s.2=rnd M∧I s.2.1∧s.2.1.p.length=M.p.length) (fun s=>M.p.length-s.1) (0,M,true,false) ?_
  conv=>whnf
  refine ⟨(by (refine qf_ [some 0,some 1,some 2,some 3,some 4] rfl rfl ?_ ?_<;>(repeat' first|exact True.intro|exact rfl|exact .inl rfl|exact .inr rfl|refine And.intro ?_ ?_|fail))),⟨Nat.zero_le _,rfl,hIM,rfl⟩,fun s hs=>?_⟩
  obtain ⟨k,N,ov,wt⟩:=s
  obtain ⟨hk,hgo,hIN,hNl⟩:=hs
  dsimp only at hk hgo hIN hNl
  repeat' first|(refine fun (b:Bool) hb=>?_;cases b<;>first|exact absurd hb (by decide)|exact nfl hb|exact nfr hb|skip)|fail
  ·have hkl:k=M.p.length := by
    have h:=of_decide_eq_false (by assumption:decide ((k:Int)<((qo_ Q M.p).length:Int))=false)
    rw [q8_] at h
    omega
   subst hkl
   rw [List.drop_eq_nil_of_le (by rw [List.length_range];exact Nat.le_refl _)] at hgo
   refine ⟨(N,ov,wt),(by (refine qf_ [some 0,some 1,some 2,some 3,some 4] rfl rfl ?_ ?_<;>(repeat' first|exact True.intro|exact rfl|exact .inl rfl|exact .inr rfl|refine And.intro ?_ ?_|fail))),⟨hgo,hIN⟩⟩
  have hk2:k<M.p.length:=by
   have h:=of_decide_eq_true (by assumption:decide ((k:Int)<((qo_ Q M.p).length:Int))=true)
   rw [q8_] at h
   omega
  have hkN:k<N.p.length:=by omega
  obtain ⟨hFo,hZo,hIo⟩:=hS N hIN k hkN
  have hdr:(List.range M.p.length).drop k=k::(List.range M.p.length).drop (k+1):=by
   rw [List.drop_eq_getElem_cons (by rw [List.length_range];exact hk2),List.getElem_range]
  rw [hdr,wy_] at hgo
  dsimp only at hgo
  have hNl2:=qf9_ N k hkN
  have hpat:(qo_ Q (qv_ N k).1.p)[k]?=some (vy_ Q k (pr (qv_ N k).1 k)):=vz_ (by rw [pr_at (by omega)];exact List.getElem?_eq_getElem _)
  conv=>whnf
  refine ql_ [1,2,5,7,18,19] (σ:=Unit) (fun _=>[(6,.bool (decide ((qv_ N k).2=0) || wt)),(7,.int .i64 k)]) (fun _=>[.box [.sl qh_ (qv_ N k).1.g,.sl qq_ (qv_ N k).1.f,.own 2,.own 3,.sl qd_ (qv_ N k).1.sunk],.box [.nil,.nil,.nil,.nil,.nil],.row 4 ((qv_ N k).1.pipes.map qk_),.row 5 (qo_ Q (qv_ N k).1.p),.pack Q (q3_ (qv_ N k).1.p)]) (fun _=>True) ?_
  conv=>whnf
  refine ⟨?_,fun _ _=>?_⟩
  ·conv=>whnf
   refine ⟨N,k,0,2,3,4,Q,rfl,rfl,rfl,rfl,rfl,hFo,hZo,?_⟩
   conv=>whnf
   repeat' first|(refine fun (b:Bool) hb=>?_;cases b<;>first|exact absurd hb (by decide)|exact nfl hb|exact nfr hb|skip)|fail
   ·have hb0:decide ((qv_ N k).2=0)=false:=by assumption
    conv=>whnf
    rw [hb0]
    exact ⟨(),(by (refine qf_ [some 0,some 1,some 2,some 3,some 4] rfl rfl ?_ ?_<;>(repeat' first|exact True.intro|exact rfl|exact .inl rfl|exact .inr rfl|refine And.intro ?_ ?_|fail))),trivial⟩
   ·have hb0:decide ((qv_ N k).2=0)=true:=by assumption
    conv=>whnf
    rw [hb0]
    exact ⟨(),(by (refine qf_ [some 0,some 1,some 2,some 3,some 4] rfl rfl ?_ ?_<;>(repeat' first|exact True.intro|exact rfl|exact .inl rfl|exact .inr rfl|refine And.intro ?_ ?_|fail))),trivial⟩
  have hI64:I64 ((k:Int)+1):=by
   have hM:(qo_ Q M.p).length≤MAXL:=by assumption
   rw [q8_] at hM
   unfold MAXL at hM;unfold I64;omega
  conv=>whnf
  repeat' first|(refine fun (b:Bool) hb=>?_;cases b<;>first|exact absurd hb (by decide)|exact nfl hb|exact nfr hb|skip)|refine And.intro (a:=I64 _) ?_ ?_|refine ⟨rfl,?_⟩|fail
  ·exact hI64
  ·have ho:ov=false:=by assumption
   subst ho
   refine ⟨(k+1,(qv_ N k).1,false,decide ((qv_ N k).2=0) || wt),(by (refine qf_ [some 0,some 1,some 2,some 3,some 4] rfl rfl ?_ ?_<;>(repeat' first|exact True.intro|exact rfl|exact .inl rfl|exact .inr rfl|refine And.intro ?_ ?_|fail))),⟨hk2,hgo,hIo,by show (qv_ N k).1.p.length=_;omega⟩,by show M.p.length-(k+1)<M.p.length-k;omega⟩
  ·have ho:ov=true:=by assumption
   subst ho
   refine ⟨k,rfl,by rw [q8_];omega,?_⟩
   conv=>whnf
   refine ⟨_,hpat,?_⟩
   conv=>whnf
   repeat' first|refine And.intro (a:=I64 _) ?_ ?_|fail
   ·exact hI64
   refine ⟨(k+1,(qv_ N k).1,(pr (qv_ N k).1 k).over,decide ((qv_ N k).2=0) || wt),(by (refine qf_ [some 0,some 1,some 2,some 3,some 4] rfl rfl ?_ ?_<;>(repeat' first|exact True.intro|exact rfl|exact .inl rfl|exact .inr rfl|refine And.intro ?_ ?_|fail))),⟨hk2,hgo,hIo,by show (qv_ N k).1.p.length=_;omega⟩,by show M.p.length-(k+1)<M.p.length-k;omega⟩
 obtain ⟨N,ov,wt⟩:=s
 obtain ⟨hs',hIN⟩:=hs
 dsimp only at hIN
 conv=>whnf
 refine ql_ [1,2,6] (σ:=Bool) (fun s=>[(38,.bool ov)]) (fun s=>match s with|true=>[.box [.sl qh_ N.g,.sl qq_ N.f,.own 2,.own 3,.sl qd_ N.sunk],.box [.nil,.nil,.nil,.nil,.nil],.row 4 (N.pipes.map qk_),.row 5 (N.p.map zf_),.dead]|false=>[.box [.sl qh_ N.g,.sl qq_ N.f,.own 2,.own 3,.sl qd_ N.sunk],.box [.nil,.nil,.nil,.nil,.nil],.row 4 (N.pipes.map qk_),.row 5 (qo_ Q N.p),.pack Q (q3_ N.p)]) (fun s=>s=ov) ?_
 conv=>whnf
 refine ⟨?_,fun s hs=>?_⟩
 ·conv=>whnf
  cases ov
  ·exact ⟨false,(by (refine qf_ [some 0,some 1,some 2,some 3,some 4] rfl rfl ?_ ?_<;>(repeat' first|exact True.intro|exact rfl|exact .inl rfl|exact .inr rfl|refine And.intro ?_ ?_|fail))),rfl⟩
  ·exact ⟨true,(qdp_ 3 4 rfl rfl).trans (by (refine qf_ [some 0,some 1,some 2,some 3,some 4] rfl rfl ?_ ?_<;>(repeat' first|exact True.intro|exact rfl|exact .inl rfl|exact .inr rfl|refine And.intro ?_ ?_|fail))),rfl⟩
 subst hs
 have e1:(rnd M).1=N:=by rw [←hs']
 have e2:(rnd M).2.1=s:=by rw [←hs']
 have e3:(rnd M).2.2=wt:=by rw [←hs']
 cases s
 ·conv=>whnf
  repeat' first|(refine fun (b:Bool) hb=>?_;cases b<;>first|exact absurd hb (by decide)|exact nfl hb|exact nfr hb|skip)|fail
  ·have hw:wt=true := by
    have h:(!wt)=false:=by assumption
    simpa using h
   subst hw
   cases hF with
   | over h=>rw [e2] at h;cases h
   | stuck h h2=>rw [e3] at h2;cases h2
   | @more _ n' _ h h2 h3 =>
    rw [e1] at h3
    conv=>whnf
    refine ⟨(n',N),(by (refine qf_ [some 0,some 1,some 2,some 3,some 4] rfl rfl ?_ ?_<;>(repeat' first|exact True.intro|exact rfl|exact .inl rfl|exact .inr rfl|refine And.intro ?_ ?_|fail))),⟨h3,hIN⟩,by show n'<n'+1;omega⟩
  ·have hw:wt=false := by
    have h:(!wt)=true:=by assumption
    simpa using h
   subst hw
   cases hF with
   | over h=>rw [e2] at h;cases h
   | more h h2 h3=>rw [e3] at h2;cases h2
   | stuck h h2 =>
    conv=>whnf
    refine ⟨Gp.Node,qh_,?_⟩
    refine ⟨FileS,qq_,?_⟩
    refine ⟨PipeS,qk_,?_⟩
    refine ⟨ProcS,zf_,?_⟩
    refine ⟨UInt8,qd_,?_⟩
    exact hK _ rfl
 ·conv=>whnf
  repeat' first|refine ⟨_,_,_,LeL.refl _,?_⟩|(refine fun (b:Bool) hb=>?_;cases b<;>first|exact absurd hb (by decide)|exact nfl hb|exact nfr hb|skip)|fail
  cases hF with
  | stuck h h2=>rw [e2] at h;cases h
  | more h h2 h3=>rw [e2] at h;cases h
  | over h =>
   conv=>whnf
   refine hK _ ?_
   rw [e1]
   rfl
end Gv
namespace Gv
variable [Glob] [Laid]
def zm_:List Gp.Node:=[srcN [97],q8x_ 2 [⟨0,0⟩],zb0_ ⟨6,[],0⟩ [⟨1,0⟩],zb0_ ⟨6,[],0⟩ [⟨1,1⟩],q96_ 2 zCmd [⟨2,0⟩,⟨3,0⟩],zd4_ [98] [⟨4,0⟩]]
theorem q20_:qb_ Tryz.prog 56=true:=by kernel_rfl
def qtn_:Spec:=fun args K=>args=[]∧K (.agg [.sl qh_ zm_])
noncomputable def qw1_:List (Nat × Spec):=[]
noncomputable def qw0_:List (Nat × FnI):=[]
noncomputable def qni_:List (Nat × qn_):=[]
theorem q7a_:EnvOK ⟨Tryz.prog,tys,qw1_,qw0_,qni_,[]⟩:=qs_ qt_ tys0 .nil .nil .nil rfl
set_option maxRecDepth 10000 in
theorem q21_:Pure Tryz.prog 56 qtn_:=by
 refine qp_ q7a_ 6 (fi:={fn:=Tryz.f56,hooks:=[],draws:=[]}) ⟨Tryz.func56,by kernel_rfl,by kernel_rfl⟩ ?_
 rintro _ K ⟨rfl,hK⟩
 skip
 refine ⟨Gp.Port,ww_,?_⟩
 skip
 refine ⟨Gp.Port,ww_,[⟨0,0⟩],LeL.refl _,?_⟩
 skip
 refine ⟨Gp.Port,ww_,[⟨1,0⟩],LeL.refl _,?_⟩
 skip
 refine ⟨Gp.Port,ww_,[⟨1,1⟩],LeL.refl _,?_⟩
 skip
 refine ⟨Gp.Port,ww_,[⟨2,0⟩,⟨3,0⟩],LeL.refl _,?_⟩
 skip
 refine ⟨Gp.Port,ww_,[⟨4,0⟩],LeL.refl _,?_⟩
 skip
 refine ⟨Gp.Node,qh_,zm_,LeL.refl _,?_⟩
 exact hK
end Gv
namespace Gv
variable [Glob] [Laid]
def qc1_:FileS:=⟨[97],[51,10,49,10,50,10,48]⟩
theorem zdy_:zt_ zm_=0:=by decide +kernel
theorem zdz_:qu_ [qc1_]=0:=by decide +kernel
end Gv
namespace Gv
variable [Glob] [Laid] [Nums] [Errs]
def newP (g:List Gp.Node) (f:List FileS) (rm:Int):MachS × Int:=if zt_ g≠0 then (zM,zt_ g) else if qu_ f≠0 then (zM,qu_ f) else if rm<1∨1000<rm then (zM,3) else (qa4_ g f rm,0)
theorem qz7_ (c:Nat):LeL (List.replicate c V.nil) ((List.replicate c ([]:Bs)).map blV):=by
 induction c with
 | zero=>exact LeL.refl _
 | succ c ih =>
  rw [List.replicate_succ,List.replicate_succ,List.map_cons]
  refine LeL.cons ⟨rfl,fun j v v' h h'=>?_⟩ ih
  match j,h,h' with
  | 0,h,h' =>
   simp [V.cells] at h
   subst h
   have:blV []=v':=by simpa [V.cells,blV] using h'
   subst this
   exact V.Le.nil _
  | n+1,h,_=>simp [V.cells] at h
theorem zai_:qb_ Tryz.prog 19=true:=by kernel_rfl
def q8h_:Spec:=fun args K=>∃ (g:List Gp.Node) (f:List FileS) (rm:Int),args=[.agg [.sl qh_ g],.sl qq_ f,.int .i64 rm]∧K (.tup [q7_ (newP g f rm).1,.int .i64 (newP g f rm).2])
noncomputable def q51_:List (Nat × Spec):=[(62,qik_),(32,qii_),(63,qex_),(64,qo8_),(65,qs0_)]
noncomputable def q50_:List (Nat × FnI):=[]
noncomputable def qv5_:List (Nat × qn_):=[]
theorem zc5_:EnvOK ⟨Tryz.prog,tys,q51_,q50_,qv5_,[]⟩:=qs_ qt_ tys0 (.cons qk6_ qk7_ (.cons qk2_ qk3_ (.cons qhb_ qhc_ (.cons qr4_ qr5_ (.cons qqf_ qqg_ .nil))))) .nil .nil rfl
theorem zaj_:Pure Tryz.prog 19 q8h_:=by
 refine qp_ zc5_ 6 (fi:={fn:=Tryz.f19,hooks:=[4,7,9,19],draws:=[(21,[0,1,0,4,12,28,0,64,192,508,1020,2047,4095,8191])]}) ⟨Tryz.func19,by kernel_rfl,by kernel_rfl⟩ ?_
 rintro _ K ⟨g,f,rm,rfl,hK⟩
 replace hK:∀ r,r=.tup [q7_ (newP g f rm).1,.int .i64 (newP g f rm).2]→K r:=fun r h=>h ▸ hK
 conv=>whnf
 refine ql_ [1,2,3,6] (σ:=Unit) (fun _=>[]) (fun _=>[.box [.sl qh_ g],.box [.nil,.nil,.nil,.nil,.nil]]) (fun _=>zt_ g=0) ?_
 conv=>whnf
 refine ⟨?_,fun _ h4=>?_⟩
 ·conv=>whnf
  refine ⟨g,rfl,?_⟩
  repeat' first|(refine fun (b:Bool) hb=>?_;cases b<;>first|exact absurd hb (by decide)|exact nfl hb|exact nfr hb|skip)|fail
  ·exact ⟨(),(by (refine qa_ ?_;refine Sel4.mk rfl rfl ?_ ?_<;>(repeat' first|exact True.intro|exact rfl|exact .inl rfl|exact .inr rfl|refine And.intro ?_ ?_|fail))),by simpa using ‹(!decide (zt_ g=0))=false›⟩
  ·have h0:¬ zt_ g=0:=by simpa using ‹(!decide (zt_ g=0))=true›
   conv=>whnf
   refine ⟨Gp.Node,qh_,?_⟩
   refine ⟨FileS,qq_,?_⟩
   refine ⟨PipeS,qk_,?_⟩
   refine ⟨ProcS,zf_,?_⟩
   refine ⟨UInt8,qd_,?_⟩
   refine hK _ ?_
   unfold newP
   rw [if_pos h0]
   rfl
 conv=>whnf
 refine ql_ [1,2,3,6] (σ:=Unit) (fun _=>[]) (fun _=>[.box [.sl qh_ g],.box [.nil,.nil,.nil,.nil,.nil]]) (fun _=>qu_ f=0) ?_
 conv=>whnf
 refine ⟨?_,fun _ h7=>?_⟩
 ·conv=>whnf
  refine ⟨f,rfl,?_⟩
  repeat' first|(refine fun (b:Bool) hb=>?_;cases b<;>first|exact absurd hb (by decide)|exact nfl hb|exact nfr hb|skip)|fail
  ·exact ⟨(),(by (refine qa_ ?_;refine Sel4.mk rfl rfl ?_ ?_<;>(repeat' first|exact True.intro|exact rfl|exact .inl rfl|exact .inr rfl|refine And.intro ?_ ?_|fail))),by simpa using ‹(!decide (qu_ f=0))=false›⟩
  ·have h0:¬ qu_ f=0:=by simpa using ‹(!decide (qu_ f=0))=true›
   conv=>whnf
   refine ⟨Gp.Node,qh_,?_⟩
   refine ⟨FileS,qq_,?_⟩
   refine ⟨PipeS,qk_,?_⟩
   refine ⟨ProcS,zf_,?_⟩
   refine ⟨UInt8,qd_,?_⟩
   refine hK _ ?_
   unfold newP
   rw [if_neg (by rw [h4];decide),if_pos h0]
   rfl
 conv=>whnf
 refine ql_ [1,2,3,6] (σ:=Unit) (fun _=>[]) (fun _=>[.box [.sl qh_ g],.box [.nil,.nil,.nil,.nil,.nil]]) (fun _=>¬ (rm<1∨1000<rm)) ?_
 conv=>whnf
 refine ⟨?_,fun _ h9=>?_⟩
 ·conv=>whnf
  repeat' first|(refine fun (b:Bool) hb=>?_;cases b<;>first|exact absurd hb (by decide)|exact nfl hb|exact nfr hb|skip)|fail
  all_goals (try (conv=>whnf))
  all_goals (skip)
  all_goals (try (conv=>whnf))
  all_goals (skip)
  ·exact ⟨(),(by (refine qa_ ?_;refine Sel4.mk rfl rfl ?_ ?_<;>(repeat' first|exact True.intro|exact rfl|exact .inl rfl|exact .inr rfl|refine And.intro ?_ ?_|fail))),by grind⟩
  ·have hr:rm<1∨1000<rm:=by grind
   refine ⟨Gp.Node,qh_,?_⟩
   refine ⟨FileS,qq_,?_⟩
   refine ⟨PipeS,qk_,?_⟩
   refine ⟨ProcS,zf_,?_⟩
   refine ⟨UInt8,qd_,?_⟩
   refine hK _ ?_
   unfold newP
   rw [if_neg (by rw [h4];decide),if_neg (by rw [h7];decide),if_pos hr]
   rfl
  ·have hr:rm<1∨1000<rm:=by grind
   refine ⟨Gp.Node,qh_,?_⟩
   refine ⟨FileS,qq_,?_⟩
   refine ⟨PipeS,qk_,?_⟩
   refine ⟨ProcS,zf_,?_⟩
   refine ⟨UInt8,qd_,?_⟩
   refine hK _ ?_
   unfold newP
   rw [if_neg (by rw [h4];decide),if_neg (by rw [h7];decide),if_pos hr]
   rfl
 have hgf:=gf_of h4
 have hff:=xc_ h7
 conv=>whnf
 refine ⟨g,rfl,⟨by have:=hgf.len.2;omega,fun n hn=>?_⟩,?_⟩
 ·obtain ⟨i,hi,rfl⟩:=List.getElem_of_mem hn
  have:=vs_ (hgf.node i hi)
  rw [xb_ hi] at this
  omega
 skip
 refine ⟨f,rfl,⟨by omega,fun x hx=>by have:=(hff.2 x hx).2;omega⟩,?_⟩
 have hin:=z0_ h4
 conv=>whnf
 repeat' first|(refine fun (hl:_≤MAXL)=>?_)|fail
 conv=>whnf
 refine qg_ [2,3,6,10,41,42] (σ:=Nat) (fun k=>[(43,.int .i64 k)]) (fun k=>[.box [.sl qh_ g],.box [.nil,.nil,.nil,.nil,.nil],.box [.sl qh_ g,.sl qq_ f,.own 3,.own 4,.nil],.row 4 (((qr_ (g.take k)).map (vr_ g rm)).map qk_),.row 5 (((g.take k).map w2_).map zf_)]) (fun k=>k≤g.length) (fun k=>g.length-k) 0 ?_
 conv=>whnf
 refine ⟨(by (refine qf_ [some 0,some 1,some 2,none,none] rfl rfl ?_ ?_<;>(repeat' first|exact True.intro|exact rfl|exact .inl rfl|exact .inr rfl|refine And.intro ?_ ?_|fail))),Nat.zero_le _,fun k hk=>?_⟩
 repeat' first|refine ⟨_,_,_,LeL.refl _,?_⟩|(refine fun (b:Bool) hb=>?_;cases b<;>first|exact absurd hb (by decide)|exact nfl hb|exact nfr hb|skip)|(refine fun (hl:_≤MAXL)=>?_)|refine ⟨_,rfl,?_,rfl,?_⟩|fail
 ·have hkl:k=g.length := by
   have h:=of_decide_eq_false (by assumption:decide ((k:Int)<(g.length:Int))=false)
   omega
  subst hkl
  conv=>whnf
  refine ⟨UInt8,qd_,?_⟩
  refine hK _ ?_
  unfold newP
  rw [if_neg (by rw [h4];decide),if_neg (by rw [h7];decide),if_neg h9,List.take_length]
  rfl
 ·have h:=of_decide_eq_true (by assumption:decide ((k:Int)<(g.length:Int))=true)
  omega
 have hk2:k<g.length:=by
  have h:=of_decide_eq_true (by assumption:decide ((k:Int)<(g.length:Int))=true)
  omega
 have hcn:=hgf.node k hk2
 have hi5:=vs_ hcn
 rw [xb_ hk2] at hi5 hcn
 have hsp:qr_ (g.take (k+1))=qr_ (g.take k)++g[k].ins:=by
  rw [List.take_succ_eq_append_getElem hk2,zz_]
  simp [qr_]
 have hsl:(qr_ (g.take (k+1))).length≤(qr_ g).length:=by
  conv=>rhs;rw [←List.take_append_drop (k+1) g,zz_,List.length_append]
  omega
 rw [hsp,List.length_append] at hsl
 conv=>whnf
 refine qg_ [2,3,6,10,12,41,42,43,48,49] (σ:=Nat) (fun j=>[(50,.int .i64 j)]) (fun j=>[.box [.sl qh_ g],.box [.nil,.nil,.nil,.nil,.nil],.box [.sl qh_ g,.sl qq_ f,.own 3,.own 4,.nil],.row 4 (((qr_ (g.take k)++g[k].ins.take j).map (vr_ g rm)).map qk_),.row 5 (((g.take k).map w2_).map zf_),.box (qh_ g[k]).cells]) (fun j=>j≤g[k].ins.length) (fun j=>g[k].ins.length-j) 0 ?_
 conv=>whnf
 refine ⟨?_,Nat.zero_le _,fun j hj=>?_⟩
 ·have e:qr_ (g.take k)++g[k].ins.take 0=qr_ (g.take k):=by simp
  rw [e]
  exact (by (refine qf_ [some 0,some 1,some 2,some 3,some 4,some 5] rfl rfl ?_ ?_<;>(repeat' first|exact True.intro|exact rfl|exact .inl rfl|exact .inr rfl|refine And.intro ?_ ?_|fail)))
 repeat' first|exact True.intro|(refine fun (b:Bool) hb=>?_;cases b<;>first|exact absurd hb (by decide)|exact nfl hb|exact nfr hb|skip)|refine ⟨_,⟨rfl,rfl⟩,?_⟩|refine ⟨_,(fun _=>⟨rfl,rfl⟩),?_⟩|refine And.intro (a:=qj_ _ _ _ _ _ _ _ _) ?_ ?_|refine ⟨_,rfl,?_,rfl,?_⟩|fail
 ·have hjl:j=g[k].ins.length := by
   have h:=of_decide_eq_false (by assumption:decide ((j:Int)<(g[k].ins.length:Int))=false)
   omega
  subst hjl
  have ho5:=xh_ hcn
  conv=>whnf
  apply Exists.intro
  apply And.intro
  ·refine ⟨rfl,g[k].ins.length,rfl,by show g[k].ins.length*24≤_;omega,Bs,blV,List.replicate g[k].ins.length [],qz7_ _,?_⟩
   exact ⟨rfl,rfl⟩
  conv=>whnf
  repeat' first|exact True.intro|refine ⟨_,⟨rfl,rfl⟩,?_⟩|refine And.intro (a:=qj_ _ _ _ _ _ _ _ _) ?_ ?_|fail
  conv=>whnf
  apply Exists.intro
  apply And.intro
  ·refine ⟨g[k],rfl,?_⟩
   exact ⟨rfl,rfl⟩
  conv=>whnf
  apply Exists.intro
  apply And.intro
  ·refine ⟨rfl,(zh_ g[k]).toNat,by omega,by show (zh_ g[k]).toNat*24≤_;omega,Bs,blV,List.replicate (zh_ g[k]).toNat [],qz7_ _,?_⟩
   exact ⟨rfl,rfl⟩
  conv=>whnf
  repeat' first|refine ⟨_,⟨rfl,rfl⟩,?_⟩|fail
  conv=>whnf
  refine ⟨_,⟨ProcS,zf_,[w2_ g[k]],LeL.refl _,rfl,rfl⟩,?_⟩
  conv=>whnf
  apply Exists.intro
  apply Exists.intro
  apply And.intro
  ·refine ⟨fun _=>rfl,?_,rfl,rfl⟩
   show ((((g.take k).map w2_).map zf_).length+1)*64≤140737488355328
   rw [List.length_map,List.length_map,List.length_take]
   have:=hgf.len.2
   omega
  conv=>whnf
  repeat' first|exact True.intro|refine And.intro (a:=I64 _) ?_ ?_|refine ⟨_,⟨rfl,rfl⟩,?_⟩|refine ⟨_,_,⟨rfl,rfl⟩,?_⟩|refine And.intro (a:=qx_ _ _ _ _ _ _) ?_ ?_|fail
  conv=>whnf
  skip
  ·have:=hgf.len.2
   (try unfold I64);omega
  refine ⟨k+1,?_,hk2,by omega⟩
  have e1:((qr_ (g.take (k+1))).map (vr_ g rm)).map qk_=((qr_ (g.take k)++g[k].ins.take g[k].ins.length).map (vr_ g rm)).map qk_:=by rw [hsp,List.take_length]
  have e2:((g.take (k+1)).map w2_).map zf_=((g.take k).map w2_).map zf_++[w2_ g[k]].map zf_:=by
   rw [List.take_succ_eq_append_getElem hk2,List.map_append,List.map_append];rfl
  show Wk _ _ _ _ [.box [.sl qh_ g],.box [.nil,.nil,.nil,.nil,.nil],.box [.sl qh_ g,.sl qq_ f,.own 3,.own 4,.nil],.row 4 (((qr_ (g.take (k+1))).map (vr_ g rm)).map qk_),.row 5 (((g.take (k+1)).map w2_).map zf_)]
  rw [e1,e2]
  exact (by (refine qf_ [some 0,some 1,some 2,some 3,some 6] rfl rfl ?_ ?_<;>(repeat' first|exact True.intro|exact rfl|exact .inl rfl|exact .inr rfl|refine And.intro ?_ ?_|fail)))
 ·have h:=of_decide_eq_true (by assumption:decide ((j:Int)<(g[k].ins.length:Int))=true)
  omega
 have hj2:j<g[k].ins.length:=by
  have h:=of_decide_eq_true (by assumption:decide ((j:Int)<(g[k].ins.length:Int))=true)
  omega
 obtain ⟨a,o,hpo,hal,-⟩:=hgf.port k hk2 j (by unfold nI;rw [xb_ hk2];exact hj2)
 have hpj:g[k].ins[j]=⟨(a:Int),(o:Int)⟩:=by
  rw [←hpo]
  unfold inP
  rw [xb_ hk2,List.getD_eq_getElem?_getD,List.getElem?_eq_getElem hj2]
  rfl
 have hag:a<g.length:=by omega
 have hfq:vr_ g rm g[k].ins[j]=⟨[],if g[a].kind=2 then 0 else rm,false,false⟩:=by
  rw [hpj]
  unfold vr_
  dsimp only
  rw [Int.toNat_natCast,List.getD_eq_getElem?_getD,List.getElem?_eq_getElem hag]
  rfl
 conv=>whnf
 refine ql_ [2,3,6,10,12,15,41,42,43,48,49,50] (σ:=Unit) (fun _=>[(15,.ptr 7 0 0)]) (fun _=>[.box [.sl qh_ g],.box [.nil,.nil,.nil,.nil,.nil],.box [.sl qh_ g,.sl qq_ f,.own 3,.own 4,.nil],.row 4 (((qr_ (g.take k)++g[k].ins.take j).map (vr_ g rm)).map qk_),.row 5 (((g.take k).map w2_).map zf_),.box (qh_ g[k]).cells,.box (ww_ g[k].ins[j]).cells,.box [.nil,.int .i64 (if g[a].kind=2 then 0 else rm),.lit false,.lit false]]) (fun _=>True) ?_
 conv=>whnf
 refine ⟨?_,fun _ _=>?_⟩
 ·conv=>whnf
  refine ⟨a,by rw [hpj],hag,rfl,?_⟩
  repeat' first|(refine fun (b:Bool) hb=>?_;cases b<;>first|exact absurd hb (by decide)|exact nfl hb|exact nfr hb|skip)|fail
  ·have h2:¬ g[a].kind=2:=of_decide_eq_false (by assumption)
   conv=>whnf
   rw [if_neg h2]
   exact ⟨(),(by (refine qf_ [some 0,some 1,some 2,some 3,some 4,some 5,some 6,some 7] rfl rfl ?_ ?_<;>(repeat' first|exact True.intro|exact rfl|exact .inl rfl|exact .inr rfl|refine And.intro ?_ ?_|fail))),trivial⟩
  ·have h2:g[a].kind=2:=of_decide_eq_true (by assumption)
   conv=>whnf
   rw [if_pos h2]
   exact ⟨(),(by (refine qf_ [some 0,some 1,some 2,some 3,some 4,some 5,some 6,some 7] rfl rfl ?_ ?_<;>(repeat' first|exact True.intro|exact rfl|exact .inl rfl|exact .inr rfl|refine And.intro ?_ ?_|fail))),trivial⟩
 conv=>whnf
 refine ⟨UInt8,qd_,?_⟩
 repeat' first|refine And.intro (a:=I64 _) ?_ ?_|refine And.intro (a:=_≤140737488355328) ?_ ?_|refine ⟨rfl,?_⟩|fail
 ·show ((((qr_ (g.take k)++g[k].ins.take j).map (vr_ g rm)).map qk_).length+1)*40≤140737488355328
  rw [List.length_map,List.length_map,List.length_append,List.length_take]
  omega
 ·unfold I64;omega
 refine ⟨j+1,?_,hj2,by omega⟩
 show Wk _ _ _ _ [.box [.sl qh_ g],.box [.nil,.nil,.nil,.nil,.nil],.box [.sl qh_ g,.sl qq_ f,.own 3,.own 4,.nil],.row 4 (((qr_ (g.take k)++g[k].ins.take (j+1)).map (vr_ g rm)).map qk_),.row 5 (((g.take k).map w2_).map zf_),.box (qh_ g[k]).cells]
 have e1:((qr_ (g.take k)++g[k].ins.take (j+1)).map (vr_ g rm)).map qk_=((qr_ (g.take k)++g[k].ins.take j).map (vr_ g rm)).map qk_++[.agg [.sl qd_ [],.int .i64 (if g[a].kind=2 then 0 else rm),.bool false,.bool false]]:=by
  rw [List.take_succ_eq_append_getElem hj2,←List.append_assoc,List.map_append,List.map_append,List.map_cons,List.map_nil,hfq]
  rfl
 rw [e1]
 exact (by (refine qf_ [some 0,some 1,some 2,some 9,some 4,some 5] rfl rfl ?_ ?_<;>(repeat' first|exact True.intro|exact rfl|exact .inl rfl|exact .inr rfl|refine And.intro ?_ ?_|fail)))
end Gv
namespace Gv
variable [Glob] [Laid] [Nums] [Errs]
def qga_ (m:MachS) (i:Int):MachS × Int:=if qm_ m≠0 then (zM,qm_ m) else if i<0∨(m.p.length:Int)≤i then (zM,5) else if (qv_ m i.toNat).2≠0 then (zM,(qv_ m i.toNat).2) else ((qv_ m i.toNat).1,0)
theorem q7e_:qb_ Tryz.prog 12=true:=by kernel_rfl
def q25_:Spec:=fun args K=>∃ (m:MachS) (i:Int),args=[q7_ m,.int .i64 i]∧K (.tup [q7_ (qga_ m i).1,.int .i64 (qga_ m i).2])
noncomputable def q27_:List (Nat × Spec):=[(41,qbq_)]
noncomputable def q26_:List (Nat × FnI):=[(54,{ fn:=Tryz.f54,spec:=some qix_ }),(55,{ fn:=Tryz.f55,spec:=some qkd_ })]
noncomputable def qq9_:List (Nat × qn_):=[]
theorem zbp_:EnvOK ⟨Tryz.prog,tys,q27_,q26_,qq9_,[]⟩:=qs_ qt_ tys0 (.cons qcs_ qct_ .nil) (.told qiy_ rfl qcy_ (.told qke_ rfl qdk_ .nil)) .nil rfl
theorem q7f_:Pure Tryz.prog 12 q25_:=by
 refine qp_ zbp_ 6 (fi:={fn:=Tryz.f12,hooks:=[10],draws:=[]}) ⟨Tryz.func12,by kernel_rfl,by kernel_rfl⟩ ?_
 rintro _ K ⟨m,i,rfl,hK⟩
 replace hK:∀ r,r=.tup [q7_ (qga_ m i).1,.int .i64 (qga_ m i).2]→K r:=fun r h=>h ▸ hK
 skip
 refine ⟨m,rfl,?_⟩
 repeat' first|(refine fun (b:Bool) hb=>?_;cases b<;>first|exact absurd hb (by decide)|exact nfl hb|exact nfr hb|skip)|(refine fun (hl:_≤MAXL)=>?_)|fail
 all_goals (try (conv=>whnf))
 all_goals (skip)
 rotate_left
 ·have h0:qm_ m=0:=by simpa using ‹(!decide (qm_ m=0))=false›
  have hi:=of_decide_eq_true (by assumption:decide ((m.p.length:Int)≤i)=true)
  refine ⟨Gp.Node,qh_,?_⟩
  refine ⟨FileS,qq_,?_⟩
  refine ⟨PipeS,qk_,?_⟩
  refine ⟨ProcS,zf_,?_⟩
  refine ⟨UInt8,qd_,?_⟩
  refine hK _ ?_
  unfold qga_
  rw [if_neg (by rw [h0];decide),if_pos (.inr hi)]
  rfl
 ·have h0:qm_ m=0:=by simpa using ‹(!decide (qm_ m=0))=false›
  have hi:=of_decide_eq_true (by assumption:decide (i<0)=true)
  refine ⟨Gp.Node,qh_,?_⟩
  refine ⟨FileS,qq_,?_⟩
  refine ⟨PipeS,qk_,?_⟩
  refine ⟨ProcS,zf_,?_⟩
  refine ⟨UInt8,qd_,?_⟩
  refine hK _ ?_
  unfold qga_
  rw [if_neg (by rw [h0];decide),if_pos (.inl hi)]
  rfl
 ·have h0:qm_ m≠0:=by simpa using ‹(!decide (qm_ m=0))=true›
  refine ⟨Gp.Node,qh_,?_⟩
  refine ⟨FileS,qq_,?_⟩
  refine ⟨PipeS,qk_,?_⟩
  refine ⟨ProcS,zf_,?_⟩
  refine ⟨UInt8,qd_,?_⟩
  refine hK _ ?_
  unfold qga_
  rw [if_pos h0]
  rfl
 have h0:qm_ m=0:=by simpa using ‹(!decide (qm_ m=0))=false›
 have hi1:=of_decide_eq_false (by assumption:decide (i<0)=false)
 have hi2:=of_decide_eq_false (by assumption:decide ((m.p.length:Int)≤i)=false)
 obtain ⟨k,rfl⟩:∃ k:Nat,i=k:=⟨i.toNat,by omega⟩
 have hkl:k<m.p.length:=by omega
 have R:=yk_ h0
 obtain ⟨hF,hZ⟩:=q18_ R hkl
 have hP:qga_ m (k:Int)=if (qv_ m k).2≠0 then (zM,(qv_ m k).2) else ((qv_ m k).1,0):=by
  unfold qga_
  rw [if_neg (by rw [h0];decide),if_neg (by omega),Int.toNat_natCast]
 refine ⟨m,rfl,qas_ R,fun Q=>?_⟩
 conv=>whnf
 refine ql_ [2,4] (σ:=Unit) (fun _=>[]) (fun _=>[.box [.sl qh_ (qv_ m k).1.g,.sl qq_ (qv_ m k).1.f,.own 2,.own 3,.sl qd_ (qv_ m k).1.sunk],.box [.nil,.nil,.nil,.nil,.nil],.row 4 ((qv_ m k).1.pipes.map qk_),.row 5 ((qv_ m k).1.p.map zf_),.dead]) (fun _=>(qv_ m k).2=0) ?_
 conv=>whnf
 refine ⟨?_,fun _ h2=>?_⟩
 ·conv=>whnf
  refine ⟨m,k,0,2,3,4,Q,rfl,rfl,rfl,rfl,rfl,hF,hZ,?_⟩
  conv=>whnf
  repeat' first|(refine fun (b:Bool) hb=>?_;cases b<;>first|exact absurd hb (by decide)|exact nfl hb|exact nfr hb|skip)|fail
  ·exact ⟨(),(qdp_ 3 4 rfl rfl).trans (by (refine qf_ [some 0,some 1,some 2,some 3,some 4] rfl rfl ?_ ?_<;>(repeat' first|exact True.intro|exact rfl|exact .inl rfl|exact .inr rfl|refine And.intro ?_ ?_|fail))),by simpa using ‹(!decide ((qv_ m k).2=0))=false›⟩
  ·have h2:(qv_ m k).2≠0:=by simpa using ‹(!decide ((qv_ m k).2=0))=true›
   conv=>whnf
   refine ⟨Gp.Node,qh_,?_⟩
   refine ⟨FileS,qq_,?_⟩
   refine ⟨PipeS,qk_,?_⟩
   refine ⟨ProcS,zf_,?_⟩
   refine ⟨UInt8,qd_,?_⟩
   refine hK _ ?_
   rw [hP,if_pos h2]
   rfl
 conv=>whnf
 repeat' first|refine ⟨_,_,_,LeL.refl _,?_⟩|fail
 conv=>whnf
 refine hK _ ?_
 rw [hP,if_neg (by rw [h2];decide)]
 rfl
end Gv
namespace Gv
variable [Glob] [Laid] [Nums] [Errs]
def insK (x:Bs):List Bs→List Bs
 | []=>[x]
 | y::r=>if x≤y then x::y::r else y::insK x r
def q2z_:List Bs→List Bs
 | []=>[]
 | x::r=>insK x (q2z_ r)
theorem qe6_ (x:Bs):∀ l,(insK x l).Perm (x::l)
 | []=>List.Perm.refl _
 | y::r=>by
  unfold insK
  split
  ·exact List.Perm.refl _
  ·exact ((qe6_ x r).cons y).trans (List.Perm.swap x y r)
theorem qe7_ (x:Bs):∀ l,l.Pairwise (·≤·)→(insK x l).Pairwise (·≤·)
 | [],_=>by simp [insK]
 | y::r,h=>by
  obtain ⟨h1,h2⟩:=List.pairwise_cons.1 h
  unfold insK
  split
  ·rename_i hx
   refine List.pairwise_cons.2 ⟨fun z hz=>?_,h⟩
   rcases List.mem_cons.1 hz with rfl|hz
   ·exact hx
   ·exact List.le_trans hx (h1 z hz)
  ·rename_i hx
   refine List.pairwise_cons.2 ⟨fun z hz=>?_,qe7_ x r h2⟩
   rcases List.mem_cons.1 ((qe6_ x r).mem_iff.1 hz) with rfl|hz
   ·exact (List.le_total _ _).resolve_right hx
   ·exact h1 z hz
theorem qka_:∀ l,l.Perm (q2z_ l)∧(q2z_ l).Pairwise (·≤·)
 | []=>⟨List.Perm.refl _,List.Pairwise.nil⟩
 | x::r=>by
  obtain ⟨h1,h2⟩:=qka_ r
  exact ⟨(h1.cons x).trans (qe6_ x (q2z_ r)).symm,qe7_ x _ h2⟩
def zad_ (n:Gp.Node) (f:List FileS) (ins:List Bs):List Bs :=
 if n.kind=3∧n.c.kind=6 then [put (q2z_ (qc_ (ins.getD 0 [])))] else za_ n f ins
theorem zae_ (n:Gp.Node) (f:List FileS) (ins:List Bs):za_ n f ins=zad_ n f ins:=by
 unfold zad_
 split
 ·rename_i h
  unfold za_
  rw [if_neg (by omega),if_neg (by omega),if_pos h.1]
  unfold zq_
  rw [if_pos h.2,q69_ (qka_ _).1 (qka_ _).2]
 ·rfl
def q5b_ (m:MachS) (i:Nat):MachS:=setP m i ⟨(pr m i).got.map fun _=>[],(pr m i).pos,catL (pr m i).out (zad_ (ndG m.g i) m.f (pr m i).got),true,(pr m i).over⟩
theorem q9x_:z5_=q5b_:=by
 funext m i
 unfold z5_ q5b_ w3_
 rw [zae_]
def za3_ (m:MachS) (i:Nat):Option MachS :=
 let x:=insB m.g i+(pr m i).pos.toNat
 if nI m.g i=0 then some (q5b_ m i)
 else if (qu m x).b≠[] then some (xk_ (setQ m x ⟨(qu m x).b.drop 8,(qu m x).room,(qu m x).closed,(qu m x).shut⟩) i ((qu m x).b.take 8))
 else if (qu m x).closed=false then none
 else if (pr m i).pos+1=(nI m.g i:Int) then some (q5b_ (setP m i (z8_ (pr m i))) i)
 else some (setP m i (z8_ (pr m i)))
theorem za4_:wx_=za3_:=by
 funext m i
 unfold wx_ za3_
 rw [q9x_]
def q24_ (m:MachS) (i:Nat):MachS × Int :=
 if (pr m i).over=true then (m,7)
 else if (pr m i).out.any (fun b=>decide (b≠[]))=true then
  match (List.range (pr m i).out.length).find? (canW m i) with
  | some k=>(doW m i k,0)
  | none=>(m,8)
 else if (pr m i).read=true then (wp_ m i,0)
 else match za3_ m i with
  | some m'=>(m',0)
  | none=>(m,8)
theorem zbo_:qv_=q24_:=by
 funext m i
 unfold qv_ q24_
 rw [za4_]
 rfl
def qte_:List Nat→MachS × Bool × Bool→MachS × Bool × Bool
 | [],s=>s
 | i::r,s=>qte_ r ((q24_ s.1 i).1,s.2.1 && (pr (q24_ s.1 i).1 i).over,decide ((q24_ s.1 i).2=0) || s.2.2)
theorem q19_:∀ l s,wy_ l s=qte_ l s
 | [],s=>rfl
 | i::r,s=>by
  unfold wy_ qte_
  rw [q19_ r,zbo_]
def rndK (m:MachS):MachS × Bool × Bool:=qte_ (List.range m.p.length) (m,true,false)
theorem rnd_K (m:MachS):rnd m=rndK m:=q19_ _ _
def finF:Nat→MachS→Option (MachS × Int)
 | 0,_=>none
 | n+1,m=>match rndK m with
  | (M,true,_)=>some (M,0)
  | (_,false,false)=>some (zM,8)
  | (M,false,true)=>finF n M
theorem qy6_:∀ (n:Nat) (m:MachS) (r:MachS × Int),finF n m=some r→∃ k,FinN k m r
 | 0,_,_,h=>by cases h
 | n+1,m,r,h=>by
  unfold finF at h
  have e:=rnd_K m
  generalize rndK m=s at h e
  obtain ⟨M,a,b⟩:=s
  cases a with
  | true =>
   cases h
   have h1:=FinN.over (m:=m) (by rw [e])
   rw [e] at h1
   exact ⟨0,h1⟩
  | false =>
   cases b with
   | false =>
    cases h
    exact ⟨0,.stuck (by rw [e]) (by rw [e])⟩
   | true =>
    obtain ⟨k,hk⟩:=qy6_ n M r h
    exact ⟨k+1,.more (by rw [e]) (by rw [e]) (by rw [e];exact hk)⟩
theorem zc2_:qm_ (qa4_ zm_ [qc1_] 1)=0:=by decide +kernel
theorem q5y_:(finF 300 (qa4_ zm_ [qc1_] 1)).map (fun r=>(r.1.sunk,r.2))=some ([48,10,49,10,50,10,51,10],0):=by decide +kernel
theorem q5x_:∃ n M,FinN n (qa4_ zm_ [qc1_] 1) (M,0)∧M.sunk=[48,10,49,10,50,10,51,10]:=by
 have h:=q5y_
 cases hf:finF 300 (qa4_ zm_ [qc1_] 1) with
 | none=>rw [hf] at h;cases h
 | some r =>
  rw [hf] at h
  simp only [Option.map_some,Option.some.injEq,Prod.mk.injEq] at h
  obtain ⟨k,hk⟩:=qy6_ _ _ _ hf
  refine ⟨k,r.1,?_,h.1⟩
  rw [←h.2]
  exact hk
theorem qv2_:(qv_ (qa4_ zm_ [qc1_] 1) 5).2=8:=by decide +kernel
theorem qv3_:qb_ Tryz.prog 13=true:=by kernel_rfl
def qmo_:Spec:=fun args K=>args=[]∧K (.bool true)
noncomputable def qqa_:List (Nat × Spec):=[(56,qtn_),(19,q8h_),(12,q25_),(22,qy7_)]
noncomputable def qp9_:List (Nat × FnI):=[]
noncomputable def qjp_:List (Nat × qn_):=[]
theorem q0u_:EnvOK ⟨Tryz.prog,tys,qqa_,qp9_,qjp_,[]⟩:=qs_ qt_ tys0 (.cons q20_ q21_ (.cons zai_ zaj_ (.cons q7e_ q7f_ (.cons qy8_ qy9_ .nil)))) .nil .nil rfl
set_option maxRecDepth 10000 in
theorem qv4_:Pure Tryz.prog 13 qmo_:=by
 refine qp_ q0u_ 6 (fi:={fn:=Tryz.f13,hooks:=[],draws:=[]}) ⟨Tryz.func13,by kernel_rfl,by kernel_rfl⟩ ?_
 rintro _ K ⟨rfl,hK⟩
 replace hK:∀ r,r=.bool true→K r:=fun r h=>h ▸ hK
 have c1:=zc2_
 obtain ⟨n,M,c2,c5⟩:=q5x_
 have hnew:newP zm_ [qc1_] 1=(qa4_ zm_ [qc1_] 1,0):=by
  unfold newP
  rw [zdy_,zdz_,if_neg (by simp),if_neg (by simp),if_neg (by decide)]
 have hstep:qga_ (qa4_ zm_ [qc1_] 1) 5=(zM,8):=by
  unfold qga_
  rw [c1,if_neg (by simp),if_neg (by decide +kernel),show (5:Int).toNat=5 from rfl,qv2_,if_pos (by decide)]
 repeat' first|refine ⟨rfl,?_⟩|fail
 conv=>whnf
 refine ⟨[51,10,49,10,50,10,48],rfl,by decide,?_⟩
 skip
 refine ⟨FileS,qq_,[qc1_],LeL.refl _,?_⟩
 refine ⟨zm_,[qc1_],1,rfl,?_⟩
 rw [hnew]
 skip
 conv=>whnf
 refine ⟨qa4_ zm_ [qc1_] 1,5,rfl,?_⟩
 rw [hstep]
 skip
 conv=>whnf
 refine ⟨qa4_ zm_ [qc1_] 1,n,(M,0),IR,rfl,⟨fun _=>⟨qas_ (yk_ c1),ir_of (yk_ c1),qam_,c2⟩,fun h=>absurd c1 h⟩,?_⟩
 repeat' first|(refine fun (b:Bool) hb=>?_;cases b<;>first|exact absurd hb (by decide)|exact nfl hb|exact nfr hb|skip)|refine ⟨_,(fun _=>rfl),rfl,?_⟩|fail
 all_goals (try (conv=>whnf))
 all_goals (skip)
 refine hK _ ?_
 show V.bool (decide (M.sunk=[48,10,49,10,50,10,51,10]))=_
 rw [c5]
 rfl
end Gv
namespace Gv
variable [Glob] [Laid]
end Gv
namespace Gv
variable [Glob] [Laid]
end Gv
namespace Gv
variable [Glob] [Laid]
end Gv
namespace Gv
variable [Glob] [Laid]
theorem qyz_:qb_ Tryz.prog 57=true:=by kernel_rfl
def qsc_:Spec:=fun args K=>∃ a b:List Port,args=[.sl ww_ a,.sl ww_ b]∧K (.bool (decide (a=b)))
noncomputable def qu8_:List (Nat × Spec):=[]
noncomputable def qu7_:List (Nat × FnI):=[]
noncomputable def ql1_:List (Nat × qn_):=[]
theorem q4y_:EnvOK ⟨Tryz.prog,tys,qu8_,qu7_,ql1_,[(47,[true,true])]⟩:=qs_ qt_ tys0 .nil .nil .nil (by kernel_rfl)
theorem qy0_:Pure Tryz.prog 57 qsc_:=by
 refine qp_ q4y_ 6 (fi:={fn:=Tryz.f57,hooks:=[],draws:=[(6,[0,0,3,7,0,0,48,112,255])]}) ⟨Tryz.func57,by kernel_rfl,by kernel_rfl⟩ ?_
 rintro _ K ⟨x,y,rfl,hK⟩
 replace hK:∀ r,r=.bool (decide (x=y))→K r:=fun r h=>h ▸ hK
 repeat' first|(refine fun (b:Bool) hb=>?_;cases b<;>first|exact absurd hb (by decide)|exact nfl hb|exact nfr hb|skip)|(refine fun (hl:_≤MAXL)=>?_)|fail
 rotate_left
 ·refine hK _ ?_
  congr 1
  grind
 conv=>whnf
 refine qg_ [0,1,12] (σ:=Nat) (fun i=>[(13,.int .i64 i)]) (fun _=>[]) (fun i=>i≤x.length∧x.take i=y.take i) (fun i=>x.length-i) 0 ?_
 conv=>whnf
 refine ⟨qf_ [] rfl rfl trivial (by (repeat' first|exact True.intro|exact rfl|exact .inl rfl|exact .inr rfl|refine And.intro ?_ ?_|fail)),⟨Nat.zero_le _,rfl⟩,?_⟩
 intro i ⟨hi,hI⟩
 repeat' first|(refine fun (b:Bool) hb=>?_;cases b<;>first|exact absurd hb (by decide)|exact nfl hb|exact nfr hb|skip)|refine And.intro (a:=I64 _) ?_ ?_|refine ⟨_,⟨rfl,rfl⟩,?_⟩|refine ⟨_,⟨_,rfl,?_,rfl,rfl,rfl⟩,?_⟩|fail
 all_goals try ((first|omega|(unfold I64;omega)|(simp only [List.length_append,List.length_map,List.length_cons,List.length_nil,Nat.mul_one,Int.ofNat_eq_natCast] at *;omega)|(dsimp only at *;omega)|(unfold I64;dsimp only at *;omega)|(unfold I64;grind)|grind);done)
 ·refine hK _ ?_
  congr 1
  have e:x=y:=by
   have h1:x.take i=x:=List.take_of_length_le (by grind)
   have h2:y.take i=y:=List.take_of_length_le (by grind)
   rw [←h1,←h2,hI]
  simp [e]
 ·have g1:i<x.length:=by grind
  have g2:i<y.length:=by grind
  refine ⟨i+1,?_,⟨?_,?_⟩,?_⟩
  ·refine qf_ [] rfl rfl trivial ?_
   (repeat' first|exact True.intro|exact rfl|exact .inl rfl|exact .inr rfl|refine And.intro ?_ ?_|fail)
  ·grind
  ·rw [List.take_succ_eq_append_getElem g1,List.take_succ_eq_append_getElem g2,hI]
   have e:x[i]=y[i]:=by
    have h1:x[i].node=y[i].node∧x[i].out=y[i].out:=by grind
    rcases hx:x[i] with ⟨a,b⟩
    rcases hy:y[i] with ⟨a',b'⟩
    rw [hx,hy] at h1
    simp only at h1
    rw [h1.1,h1.2]
   rw [e]
  ·grind
 ·refine hK _ ?_
  congr 1
  grind
end Gv
namespace Gv
variable [Glob] [Laid]
theorem q2i_:qb_ Tryz.prog 14=true:=by kernel_rfl
def qth_:Spec:=fun args K=>∃ a b:List Gp.Node,args=[.agg [.sl qh_ a],.agg [.sl qh_ b]]∧K (.bool (decide (a=b)))
noncomputable def qwu_:List (Nat × Spec):=[(57,qsc_)]
noncomputable def qwt_:List (Nat × FnI):=[]
noncomputable def qnc_:List (Nat × qn_):=[]
theorem q60_:EnvOK ⟨Tryz.prog,tys,qwu_,qwt_,qnc_,[(38,[true,false,true])]⟩:=qs_ qt_ tys0 (.cons qyz_ qy0_ .nil) .nil .nil (by kernel_rfl)
theorem q2j_:Pure Tryz.prog 14 qth_:=by
 refine qp_ q60_ 6 (fi:={fn:=Tryz.f14,hooks:=[],draws:=[]}) ⟨Tryz.func14,by kernel_rfl,by kernel_rfl⟩ ?_
 rintro _ K ⟨a,b,rfl,hK⟩
 replace hK:∀ r,r=.bool (decide (a=b))→K r:=fun r h=>h ▸ hK
 repeat' first|(refine fun (b:Bool) hb=>?_;cases b<;>first|exact absurd hb (by decide)|exact nfl hb|exact nfr hb|skip)|(refine fun (hl:_≤MAXL)=>?_)|fail
 rotate_left
 ·refine hK _ ?_
  congr 1
  grind
 conv=>whnf
 refine qg_ [3,16,17] (σ:=Nat) (fun i=>[(18,.int .i64 i)]) (fun _=>[.box [.sl qh_ a],.box [.sl qh_ b]]) (fun i=>i≤a.length∧a.take i=b.take i) (fun i=>a.length-i) 0 ?_
 conv=>whnf
 refine ⟨(by (refine qa_ ?_;refine Sel4.mk rfl rfl ?_ ?_<;>(repeat' first|exact True.intro|exact rfl|exact .inl rfl|exact .inr rfl|refine And.intro ?_ ?_|fail))),⟨Nat.zero_le _,rfl⟩,fun i hi=>?_⟩
 obtain ⟨hi,hI⟩:=hi
 repeat' first|(refine fun (b:Bool) hb=>?_;cases b<;>first|exact absurd hb (by decide)|exact nfl hb|exact nfr hb|skip)|refine ⟨_,rfl,?_,rfl,?_⟩|fail
 ·refine hK _ ?_
  congr 1
  have e:a=b:=by
   have h1:a.take i=a:=List.take_of_length_le (by grind)
   have h2:b.take i=b:=List.take_of_length_le (by grind)
   rw [←h1,←h2,hI]
  simp [e]
 ·grind
 ·grind
 ·have g1:i<a.length:=by grind
  have g2:i<b.length:=by grind
  refine ⟨a[i].ins,b[i].ins,rfl,?_⟩
  repeat' first|(refine fun (b:Bool) hb=>?_;cases b<;>first|exact absurd hb (by decide)|exact nfl hb|exact nfr hb|skip)|refine And.intro (a:=I64 _) ?_ ?_|fail
  ·(first|omega|(unfold I64;omega)|(simp only [List.length_append,List.length_map,List.length_cons,List.length_nil,Nat.mul_one,Int.ofNat_eq_natCast] at *;omega)|(dsimp only at *;omega)|(unfold I64;dsimp only at *;omega)|(unfold I64;grind)|grind)
  ·refine ⟨i+1,(by (refine qa_ ?_;refine Sel4.mk rfl rfl ?_ ?_<;>(repeat' first|exact True.intro|exact rfl|exact .inl rfl|exact .inr rfl|refine And.intro ?_ ?_|fail))),⟨by omega,?_⟩,by omega⟩
   rw [List.take_succ_eq_append_getElem g1,List.take_succ_eq_append_getElem g2,hI]
   have e:a[i]=b[i]:=by
    rcases hx:a[i] with ⟨k,f,c,h,w,p⟩
    rcases hy:b[i] with ⟨k',f',c',h',w',p'⟩
    rcases c with ⟨c1,c2,c3⟩
    rcases c' with ⟨d1,d2,d3⟩
    simp_all
   rw [e]
  ·refine hK _ ?_
   congr 1
   have:¬ a=b:=fun e=>by
    subst e
    simp at *
   simp [this]
 all_goals
  refine hK _ ?_
  congr 1
  have:¬ a=b:=fun e=>by
   subst e
   simp at *
  simp [this]
end Gv
namespace Gv
variable [Glob] [Laid]
theorem qbx_:qb_ Tryz.prog 18=true:=by kernel_rfl
def qbw_:Spec:=fun args K=>∃ a b:List UInt8,args=[.sl qd_ a,.sl qd_ b]∧K (.bool (decide (a=b)))
noncomputable def qu4_:List (Nat × Spec):=[]
noncomputable def qu3_:List (Nat × FnI):=[]
noncomputable def qlz_:List (Nat × qn_):=[]
theorem q4w_:EnvOK ⟨Tryz.prog,tys,qu4_,qu3_,qlz_,[]⟩:=qs_ qt_ tys0 .nil .nil .nil rfl
theorem qby_:Pure Tryz.prog 18 qbw_:=by
 refine qp_ q4w_ 6 (fi:={fn:=Tryz.f18,hooks:=[],draws:=[(6,[0,0,3,7,0,0,48,112,255])]}) ⟨Tryz.func18,by kernel_rfl,by kernel_rfl⟩ ?_
 rintro _ K ⟨x,y,rfl,hK⟩
 replace hK:∀ r,r=.bool (decide (x=y))→K r:=fun r h=>h ▸ hK
 repeat' first|(refine fun (b:Bool) hb=>?_;cases b<;>first|exact absurd hb (by decide)|exact nfl hb|exact nfr hb|skip)|(refine fun (hl:_≤MAXL)=>?_)|fail
 rotate_left
 ·refine hK _ ?_
  congr 1
  grind
 conv=>whnf
 refine yc_ (σ:=Nat) (fun i=>[(0,.sl qd_ x),(1,.sl qd_ y),(12,.int .i64 x.length),(13,.int .i64 i),(4,.lit false)]) (fun _=>[]) (fun i=>i≤x.length∧x.take i=y.take i) (fun i=>x.length-i) 0 (qf_ [] rfl rfl trivial ?_) ⟨Nat.zero_le _,rfl⟩ ?_
 ·(repeat' first|exact True.intro|exact rfl|exact .inl rfl|exact .inr rfl|refine And.intro ?_ ?_|fail)
 intro i ⟨hi,hI⟩
 repeat' first|(refine fun (b:Bool) hb=>?_;cases b<;>first|exact absurd hb (by decide)|exact nfl hb|exact nfr hb|skip)|refine And.intro (a:=I64 _) ?_ ?_|refine ⟨_,⟨rfl,rfl⟩,?_⟩|refine ⟨_,⟨_,rfl,?_,rfl,rfl,rfl⟩,?_⟩|fail
 ·refine hK _ ?_
  congr 1
  have e:x=y:=by
   have h1:x.take i=x:=List.take_of_length_le (by grind)
   have h2:y.take i=y:=List.take_of_length_le (by grind)
   rw [←h1,←h2,hI]
  simp [e]
 ·grind
 ·grind
 ·unfold I64;grind
 ·refine ⟨i+1,?_,⟨?_,?_⟩,?_⟩
  ·refine qf_ [] rfl rfl trivial ?_
   (repeat' first|exact True.intro|exact rfl|exact .inl rfl|exact .inr rfl|refine And.intro ?_ ?_|fail)
  ·grind
  ·have g1:i<x.length:=by grind
   have g2:i<y.length:=by grind
   rw [List.take_succ_eq_append_getElem g1,List.take_succ_eq_append_getElem g2,hI]
   have e:x[i].toNat=y[i].toNat:=by grind
   rw [UInt8.toNat_inj.1 e]
  ·grind
 ·refine hK _ ?_
  congr 1
  grind
end Gv
namespace Gv
variable [Glob] [Laid]
theorem q4z_ {a b:FileS} (h1:a.name=b.name) (h2:a.b=b.b):a=b:=by
 cases a;cases b;simp only at h1 h2;subst h1;subst h2;rfl
theorem q6y_:qb_ Tryz.prog 15=true:=by kernel_rfl
def q2f_:Spec:=fun args K=>∃ a b:List FileS,args=[.sl qq_ a,.sl qq_ b]∧K (.bool (decide (a=b)))
noncomputable def q2h_:List (Nat × Spec):=[(18,qbw_)]
noncomputable def q2g_:List (Nat × FnI):=[(58,{fn:=Tryz.f58,hooks:=[],draws:=[]}),(59,{fn:=Tryz.f59,hooks:=[],draws:=[]})]
noncomputable def qqz_:List (Nat × qn_):=[]
theorem zbd_:EnvOK ⟨Tryz.prog,tys,q2h_,q2g_,qqz_,[]⟩:=qs_ qt_ tys0 (.cons qbx_ qby_ .nil) (.cons (by kernel_rfl) ⟨Tryz.func58,by kernel_rfl,by kernel_rfl⟩ (.cons (by kernel_rfl) ⟨Tryz.func59,by kernel_rfl,by kernel_rfl⟩ .nil)) .nil rfl
theorem q6z_:Pure Tryz.prog 15 q2f_:=by
 refine qp_ zbd_ 6 (fi:={fn:=Tryz.f15,hooks:=[],draws:=[]}) ⟨Tryz.func15,by kernel_rfl,by kernel_rfl⟩ ?_
 rintro _ K ⟨x,y,rfl,hK⟩
 replace hK:∀ r,r=.bool (decide (x=y))→K r:=fun r h=>h ▸ hK
 repeat' first|(refine fun (b:Bool) hb=>?_;cases b<;>first|exact absurd hb (by decide)|exact nfl hb|exact nfr hb|skip)|(refine fun (hl:_≤MAXL)=>?_)|fail
 rotate_left
 ·refine hK _ ?_
  congr 1
  grind
 conv=>whnf
 refine qg_ [1,2,15,16] (σ:=Nat) (fun i=>[(17,.int .i64 i)]) (fun _=>[]) (fun i=>i≤x.length∧x.take i=y.take i) (fun i=>x.length-i) 0 ?_
 conv=>whnf
 refine ⟨(by (refine qa_ ?_;refine Sel4.mk rfl rfl ?_ ?_<;>(repeat' first|exact True.intro|exact rfl|exact .inl rfl|exact .inr rfl|refine And.intro ?_ ?_|fail))),⟨Nat.zero_le _,rfl⟩,?_⟩
 intro i ⟨hi,hI⟩
 have hlen:x.length=y.length:=by
  have h:(!decide ((x.length:Int)=(y.length:Int)))=false:=by assumption
  have h2:(x.length:Int)=(y.length:Int):=by simpa using h
  omega
 repeat' first|(refine fun (b:Bool) hb=>?_;cases b<;>first|exact absurd hb (by decide)|exact nfl hb|exact nfr hb|skip)|refine ⟨_,rfl,?_,rfl,?_⟩|fail
 ·have hix:i=x.length := by
   have h:=of_decide_eq_false (by assumption:decide ((i:Int)<(x.length:Int))=false)
   omega
  subst hix
  rw [List.take_length,hlen,List.take_length] at hI
  conv=>whnf
  refine hK _ ?_
  congr 1
  exact (decide_eq_true hI).symm
 all_goals
  have g1:i<x.length:=by
   have h:=of_decide_eq_true (by assumption:decide ((i:Int)<(x.length:Int))=true)
   omega
  have g2:i<y.length:=by omega
 ·exact g1
 ·exact g2
 ·conv=>whnf
  refine hK _ ?_
  congr 1
  have hn:¬ x[i].name=y[i].name:=of_decide_eq_false (by assumption)
  exact (decide_eq_false fun h=>hn (by subst h;rfl)).symm
 ·have hn:x[i].name=y[i].name:=of_decide_eq_true (by assumption)
  conv=>whnf
  refine ⟨x[i].b,y[i].b,rfl,?_⟩
  repeat' first|(refine fun (b:Bool) hb=>?_;cases b<;>first|exact absurd hb (by decide)|exact nfl hb|exact nfr hb|skip)|refine And.intro (a:=I64 _) ?_ ?_|fail
  ·have hm:x.length≤MAXL:=by assumption
   unfold I64;unfold MAXL at hm;omega
  ·conv=>whnf
   have hbb:x[i].b=y[i].b:=by simpa using ‹(!decide (x[i].b=y[i].b))=false›
   refine ⟨i+1,(by (refine qa_ ?_;refine Sel4.mk rfl rfl ?_ ?_<;>(repeat' first|exact True.intro|exact rfl|exact .inl rfl|exact .inr rfl|refine And.intro ?_ ?_|fail))),⟨g1,?_⟩,by omega⟩
   rw [List.take_succ_eq_append_getElem g1,List.take_succ_eq_append_getElem g2,hI,q4z_ hn hbb]
  ·have hbb:¬ x[i].b=y[i].b:=by simpa using ‹(!decide (x[i].b=y[i].b))=true›
   conv=>whnf
   refine hK _ ?_
   congr 1
   exact (decide_eq_false fun h=>hbb (by subst h;rfl)).symm
end Gv
namespace Gv
variable [Glob] [Laid]
def qdy_ (a b:PipeS):Bool:=decide (a.b=b.b) && (decide (a.room=b.room) && (decide (a.closed=b.closed) && decide (a.shut=b.shut)))
theorem samePB_iff {a b:PipeS}:qdy_ a b=true↔a=b:=by
 unfold qdy_
 rw [Bool.and_eq_true,Bool.and_eq_true,Bool.and_eq_true,decide_eq_true_iff,decide_eq_true_iff,decide_eq_true_iff,decide_eq_true_iff]
 constructor
 ·obtain ⟨a1,a2,a3,a4⟩:=a
  obtain ⟨b1,b2,b3,b4⟩:=b
  rintro ⟨h1,h2,h3,h4⟩
  simp only at h1 h2 h3 h4
  subst h1;subst h2;subst h3;subst h4;rfl
 ·rintro rfl;exact ⟨rfl,rfl,rfl,rfl⟩
instance:DecidableEq PipeS:=fun a b=>if h:qdy_ a b=true then .isTrue (samePB_iff.1 h) else .isFalse fun e=>h (samePB_iff.2 e)
theorem q2n_:qb_ Tryz.prog 17=true:=by kernel_rfl
def qti_:Spec:=fun args K=>∃ a b:PipeS,args=[qk_ a,qk_ b]∧K (.bool (qdy_ a b))
noncomputable def qww_:List (Nat × Spec):=[(18,qbw_)]
noncomputable def qwv_:List (Nat × FnI):=[]
noncomputable def qne_:List (Nat × qn_):=[]
theorem q63_:EnvOK ⟨Tryz.prog,tys,qww_,qwv_,qne_,[]⟩:=qs_ qt_ tys0 (.cons qbx_ qby_ .nil) .nil .nil rfl
theorem q2o_:Pure Tryz.prog 17 qti_:=by
 refine qp_ q63_ 6 (fi:={fn:=Tryz.f17,hooks:=[],draws:=[]}) ⟨Tryz.func17,by kernel_rfl,by kernel_rfl⟩ ?_
 rintro _ K ⟨x,y,rfl,hK⟩
 replace hK:∀ r,r=.bool (qdy_ x y)→K r:=fun r h=>h ▸ hK
 skip
 refine ⟨x.b,y.b,rfl,?_⟩
 repeat' first|(refine fun (b:Bool) hb=>?_;cases b<;>first|exact absurd hb (by decide)|exact nfl hb|exact nfr hb|skip)|fail
 all_goals (try (conv=>whnf))
 all_goals (skip)
 all_goals
  refine hK _ ?_
  congr 1
  unfold qdy_
  simp_all
  try (cases x.shut<;>cases y.shut<;>rfl)
end Gv
namespace Gv
variable [Glob] [Laid]
theorem q0g_:qb_ Tryz.prog 97=true:=by kernel_rfl
def qsp_:Spec:=fun args K=>∃ a b:List Bs,args=[.sl blV a,.sl blV b]∧K (.bool (decide (a=b)))
noncomputable def qvt_:List (Nat × Spec):=[(18,qbw_)]
noncomputable def qvs_:List (Nat × FnI):=[(60,{fn:=Tryz.f60,hooks:=[],draws:=[]}),(98,{fn:=Tryz.f98,hooks:=[],draws:=[]})]
noncomputable def qmk_:List (Nat × qn_):=[]
theorem q5r_:EnvOK ⟨Tryz.prog,tys,qvt_,qvs_,qmk_,[]⟩:=qs_ qt_ tys0 (.cons qbx_ qby_ .nil) (.cons (by kernel_rfl) ⟨Tryz.func60,by kernel_rfl,by kernel_rfl⟩ (.cons (by kernel_rfl) ⟨Tryz.func98,by kernel_rfl,by kernel_rfl⟩ .nil)) .nil rfl
theorem q0h_:Pure Tryz.prog 97 qsp_:=by
 refine qp_ q5r_ 6 (fi:={fn:=Tryz.f97,hooks:=[],draws:=[]}) ⟨Tryz.func97,by kernel_rfl,by kernel_rfl⟩ ?_
 rintro _ K ⟨x,y,rfl,hK⟩
 replace hK:∀ r,r=.bool (decide (x=y))→K r:=fun r h=>h ▸ hK
 repeat' first|(refine fun (b:Bool) hb=>?_;cases b<;>first|exact absurd hb (by decide)|exact nfl hb|exact nfr hb|skip)|(refine fun (hl:_≤MAXL)=>?_)|fail
 rotate_left
 ·refine hK _ ?_
  congr 1
  grind
 conv=>whnf
 refine qg_ [1,2,15,16] (σ:=Nat) (fun i=>[(17,.int .i64 i)]) (fun _=>[]) (fun i=>i≤x.length∧x.take i=y.take i) (fun i=>x.length-i) 0 ?_
 conv=>whnf
 refine ⟨(by (refine qa_ ?_;refine Sel4.mk rfl rfl ?_ ?_<;>(repeat' first|exact True.intro|exact rfl|exact .inl rfl|exact .inr rfl|refine And.intro ?_ ?_|fail))),⟨Nat.zero_le _,rfl⟩,?_⟩
 intro i ⟨hi,hI⟩
 repeat' first|(refine fun (b:Bool) hb=>?_;cases b<;>first|exact absurd hb (by decide)|exact nfl hb|exact nfr hb|skip)|refine ⟨_,rfl,?_,rfl,?_⟩|fail
 all_goals try ((first|omega|(unfold I64;omega)|(simp only [List.length_append,List.length_map,List.length_cons,List.length_nil,Nat.mul_one,Int.ofNat_eq_natCast] at *;omega)|(dsimp only at *;omega)|(unfold I64;dsimp only at *;omega)|(unfold I64;grind)|grind);done)
 ·refine hK _ ?_
  congr 1
  have e:x=y:=by
   have h1:x.take i=x:=List.take_of_length_le (by grind)
   have h2:y.take i=y:=List.take_of_length_le (by grind)
   rw [←h1,←h2,hI]
  simp [e]
 have g1:i<x.length:=by grind
 have g2:i<y.length:=by grind
 refine ⟨x[i],y[i],rfl,?_⟩
 repeat' first|(refine fun (b:Bool) hb=>?_;cases b<;>first|exact absurd hb (by decide)|exact nfl hb|exact nfr hb|skip)|refine And.intro (a:=I64 _) ?_ ?_|fail
 all_goals try ((first|omega|(unfold I64;omega)|(simp only [List.length_append,List.length_map,List.length_cons,List.length_nil,Nat.mul_one,Int.ofNat_eq_natCast] at *;omega)|(dsimp only at *;omega)|(unfold I64;dsimp only at *;omega)|(unfold I64;grind)|grind);done)
 ·refine ⟨i+1,?_,⟨?_,?_⟩,?_⟩
  ·exact (by (refine qa_ ?_;refine Sel4.mk rfl rfl ?_ ?_<;>(repeat' first|exact True.intro|exact rfl|exact .inl rfl|exact .inr rfl|refine And.intro ?_ ?_|fail)))
  ·grind
  ·rw [List.take_succ_eq_append_getElem g1,List.take_succ_eq_append_getElem g2,hI]
   have e:x[i]=y[i]:=by grind
   rw [e]
  ·grind
 ·refine hK _ ?_
  congr 1
  grind
end Gv
namespace Gv
variable [Glob] [Laid]
theorem proc_eq {x y:ProcS}:x=y↔x.pos=y.pos∧x.read=y.read∧x.over=y.over∧x.got=y.got∧x.out=y.out:=by
 cases x;cases y
 simp only [ProcS.mk.injEq]
 constructor
 ·rintro ⟨a,b,c,d,e⟩;exact ⟨b,d,e,a,c⟩
 ·rintro ⟨a,b,c,d,e⟩;exact ⟨d,a,e,b,c⟩
theorem q2e_:qb_ Tryz.prog 101=true:=by kernel_rfl
def qtg_:qn_:=fun args rows K=>∃ x y:ProcS,args=[zf_ x,zf_ y,.ptr 0 0 0]∧rows=[.box [.fn 97 []]]∧(x≠y→K (.lit false) [.box [.fn 97 []],.box (zf_ x).cells,.box (zf_ y).cells])∧K (.bool (decide (x=y))) [.box [.fn 97 []],.box (zf_ x).cells,.box (zf_ y).cells]
noncomputable def qws_:List (Nat × Spec):=[(97,qsp_)]
noncomputable def qwr_:List (Nat × FnI):=[]
noncomputable def qnb_:List (Nat × qn_):=[]
theorem q6x_:EnvOK ⟨Tryz.prog,tys,qws_,qwr_,qnb_,[]⟩:=qs_ qt_ tys0 (.cons q0g_ q0h_ .nil) .nil .nil rfl
theorem qqy_:q1_ Tryz.prog 101 qtg_:=by
 refine xm_ q6x_ 6 q2e_ (fi:={fn:=Tryz.f101,hooks:=[],draws:=[]}) ⟨Tryz.func101,by kernel_rfl,by kernel_rfl⟩ ?_
 rintro args rows K ⟨x,y,rfl,rfl,hL,hK⟩
 replace hK:∀ b,b=decide (x=y)→K (.bool b) [.box [.fn 97 []],.box (zf_ x).cells,.box (zf_ y).cells]:=fun b h=>h ▸ hK
 repeat' first|(refine fun (b:Bool) hb=>?_;cases b<;>first|exact absurd hb (by decide)|exact nfl hb|exact nfr hb|skip)|fail
 ·have h:¬ x.pos=y.pos:=of_decide_eq_false (by assumption)
  conv=>whnf
  exact hL fun e=>h (proc_eq.1 e).1
 ·have h:¬ x.read=y.read:=by simpa using (by assumption:(x.read == y.read)=false)
  conv=>whnf
  exact hL fun e=>h (proc_eq.1 e).2.1
 ·have h:¬ x.over=y.over:=by simpa using (by assumption:(x.over == y.over)=false)
  conv=>whnf
  exact hL fun e=>h (proc_eq.1 e).2.2.1
 have h1:x.pos=y.pos:=of_decide_eq_true (by assumption)
 have h2:x.read=y.read:=by simpa using (by assumption:(x.read == y.read)=true)
 have h3:x.over=y.over:=by simpa using (by assumption:(x.over == y.over)=true)
 conv=>whnf
 refine ⟨x.got,y.got,rfl,?_⟩
 repeat' first|(refine fun (b:Bool) hb=>?_;cases b<;>first|exact absurd hb (by decide)|exact nfl hb|exact nfr hb|skip)|fail
 ·have h:¬ x.got=y.got:=of_decide_eq_false (by assumption)
  conv=>whnf
  exact hL fun e=>h (proc_eq.1 e).2.2.2.1
 have h4:x.got=y.got:=of_decide_eq_true (by assumption)
 conv=>whnf
 refine ⟨x.out,y.out,rfl,?_⟩
 skip
 refine hK _ ?_
 by_cases h:x.out=y.out
 ·rw [decide_eq_true h,decide_eq_true (proc_eq.2 ⟨h1,h2,h3,h4,h⟩)]
 ·rw [decide_eq_false h,decide_eq_false (fun e=>h (proc_eq.1 e).2.2.2.2)]
end Gv
namespace Gv
variable [Glob] [Laid]
theorem qjx_ {α:Type} {a b:List α} {i:Nat} (h:a=b) (h1:i<a.length) (h2:i<b.length):a[i]=b[i]:=by subst h;rfl
def qnd_ (a b:MachS):Bool:=decide (a.g=b.g∧a.f=b.f∧a.sunk=b.sunk∧a.pipes=b.pipes∧a.p=b.p)
theorem sameMB_iff {a b:MachS}:qnd_ a b=true↔a=b:=by
 unfold qnd_
 rw [decide_eq_true_iff]
 constructor
 ·obtain ⟨a1,a2,a3,a4,a5⟩:=a
  obtain ⟨b1,b2,b3,b4,b5⟩:=b
  rintro ⟨h1,h2,h3,h4,h5⟩
  simp only at h1 h2 h3 h4 h5
  subst h1;subst h2;subst h3;subst h4;subst h5;rfl
 ·rintro rfl;exact ⟨rfl,rfl,rfl,rfl,rfl⟩
theorem q61_:qb_ Tryz.prog 43=true:=by kernel_rfl
def q2k_:Spec:=fun args K=>∃ a b:MachS,args=[q7_ a,q7_ b]∧K (.bool (qnd_ a b))
noncomputable def q2m_:List (Nat × Spec):=[(14,qth_),(15,q2f_),(18,qbw_),(17,qti_)]
noncomputable def q2l_:List (Nat × FnI):=[(99,{fn:=Tryz.f99,hooks:=[],draws:=[]}),(100,{fn:=Tryz.f100,hooks:=[],draws:=[]})]
noncomputable def qq0_:List (Nat × qn_):=[(101,qtg_)]
theorem zbe_:EnvOK ⟨Tryz.prog,tys,q2m_,q2l_,qq0_,[]⟩:=qs_ qt_ tys0 (.cons q2i_ q2j_ (.cons q6y_ q6z_ (.cons qbx_ qby_ (.cons q2n_ q2o_ .nil)))) (.cons (by kernel_rfl) ⟨Tryz.func99,by kernel_rfl,by kernel_rfl⟩ (.cons (by kernel_rfl) ⟨Tryz.func100,by kernel_rfl,by kernel_rfl⟩ .nil)) (.cons qqy_ .nil) rfl
theorem q62_:Pure Tryz.prog 43 q2k_:=by
 refine qp_ zbe_ 6 (fi:={fn:=Tryz.f43,hooks:=[],draws:=[]}) ⟨Tryz.func43,by kernel_rfl,by kernel_rfl⟩ ?_
 rintro _ K ⟨x,y,rfl,hK⟩
 replace hK:∀ r,r=.bool (qnd_ x y)→K r:=fun r h=>h ▸ hK
 skip
 refine ⟨x.g,y.g,rfl,?_⟩
 repeat' first|(refine fun (b:Bool) hb=>?_;cases b<;>first|exact absurd hb (by decide)|exact nfl hb|exact nfr hb|skip)|fail
 ·have h1:¬ x.g=y.g:=of_decide_eq_false (by assumption)
  conv=>whnf
  refine hK _ ?_
  congr 1
  exact (decide_eq_false fun h=>h1 h.1).symm
 have h1:x.g=y.g:=of_decide_eq_true (by assumption)
 conv=>whnf
 refine ⟨x.f,y.f,rfl,?_⟩
 repeat' first|(refine fun (b:Bool) hb=>?_;cases b<;>first|exact absurd hb (by decide)|exact nfl hb|exact nfr hb|skip)|fail
 ·have h2:¬ x.f=y.f:=of_decide_eq_false (by assumption)
  conv=>whnf
  refine hK _ ?_
  congr 1
  exact (decide_eq_false fun h=>h2 h.2.1).symm
 have h2:x.f=y.f:=of_decide_eq_true (by assumption)
 conv=>whnf
 refine ⟨x.sunk,y.sunk,rfl,?_⟩
 repeat' first|(refine fun (b:Bool) hb=>?_;cases b<;>first|exact absurd hb (by decide)|exact nfl hb|exact nfr hb|skip)|(refine fun (hl:_≤MAXL)=>?_)|fail
 ·have h3:¬ x.sunk=y.sunk:=of_decide_eq_false (by assumption)
  conv=>whnf
  refine hK _ ?_
  congr 1
  exact (decide_eq_false fun h=>h3 h.2.2.1).symm
 have h3:x.sunk=y.sunk:=of_decide_eq_true (by assumption)
 conv=>whnf
 rotate_left
 ·have h4:¬ x.pipes=y.pipes := fun h => by
   have hb:(!decide ((x.pipes.length:Int)=(y.pipes.length:Int)))=true:=by assumption
   rw [h] at hb
   simp at hb
  conv=>whnf
  refine hK _ ?_
  congr 1
  exact (decide_eq_false fun h=>h4 h.2.2.2.1).symm
 have hql:x.pipes.length=y.pipes.length:=by
  have hb:(!decide ((x.pipes.length:Int)=(y.pipes.length:Int)))=false:=by assumption
  have h2:(x.pipes.length:Int)=(y.pipes.length:Int):=by simpa using hb
  omega
 refine qg_ [1,2,15,16] (σ:=Nat) (fun i=>[(17,.int .i64 i)]) (fun _=>[.box (q7_ x).cells,.box (q7_ y).cells,.box [.fn 97 []]]) (fun i=>i≤x.pipes.length∧x.pipes.take i=y.pipes.take i) (fun i=>x.pipes.length-i) 0 ?_
 conv=>whnf
 refine ⟨(by (refine qa_ ?_;refine Sel4.mk rfl rfl ?_ ?_<;>(repeat' first|exact True.intro|exact rfl|exact .inl rfl|exact .inr rfl|refine And.intro ?_ ?_|fail))),⟨Nat.zero_le _,rfl⟩,fun i hi=>?_⟩
 obtain ⟨hi,hI⟩:=hi
 repeat' first|(refine fun (b:Bool) hb=>?_;cases b<;>first|exact absurd hb (by decide)|exact nfl hb|exact nfr hb|skip)|(refine fun (hl:_≤MAXL)=>?_)|refine ⟨_,rfl,?_,rfl,?_⟩|fail
 rotate_right 3
 ·have h:=of_decide_eq_true (by assumption:decide ((i:Int)<(x.pipes.length:Int))=true)
  omega
 ·have h:=of_decide_eq_true (by assumption:decide ((i:Int)<(x.pipes.length:Int))=true)
  omega
 ·have g1:i<x.pipes.length := by
   have h:=of_decide_eq_true (by assumption:decide ((i:Int)<(x.pipes.length:Int))=true)
   omega
  have g2:i<y.pipes.length:=by omega
  conv=>whnf
  refine ⟨x.pipes[i],y.pipes[i],rfl,?_⟩
  repeat' first|(refine fun (b:Bool) hb=>?_;cases b<;>first|exact absurd hb (by decide)|exact nfl hb|exact nfr hb|skip)|refine And.intro (a:=I64 _) ?_ ?_|fail
  ·have hm:x.pipes.length≤MAXL:=by assumption
   unfold I64;unfold MAXL at hm;omega
  ·have hbb:x.pipes[i]=y.pipes[i]:=samePB_iff.1 (by simpa using ‹(!qdy_ x.pipes[i] y.pipes[i])=false›)
   conv=>whnf
   refine ⟨i+1,(by (refine qa_ ?_;refine Sel4.mk rfl rfl ?_ ?_<;>(repeat' first|exact True.intro|exact rfl|exact .inl rfl|exact .inr rfl|refine And.intro ?_ ?_|fail))),⟨g1,?_⟩,by omega⟩
   rw [List.take_succ_eq_append_getElem g1,List.take_succ_eq_append_getElem g2,hI,hbb]
  ·have hbb:¬ x.pipes[i]=y.pipes[i] := fun h => by
    have hb:(!qdy_ x.pipes[i] y.pipes[i])=true:=by assumption
    rw [samePB_iff.2 h] at hb
    cases hb
   conv=>whnf
   refine hK _ ?_
   congr 1
   exact (decide_eq_false fun h=>hbb (qjx_ h.2.2.2.1 g1 g2)).symm
 all_goals
  have hix:i=x.pipes.length:=by
   have h:=of_decide_eq_false (by assumption:decide ((i:Int)<(x.pipes.length:Int))=false)
   omega
  subst hix
  rw [List.take_length,hql,List.take_length] at hI
 rotate_left
 ·have h5:¬ x.p=y.p := fun h => by
   have hb:(!decide ((x.p.length:Int)=(y.p.length:Int)))=true:=by assumption
   rw [h] at hb
   simp at hb
  conv=>whnf
  refine hK _ ?_
  congr 1
  exact (decide_eq_false fun h=>h5 h.2.2.2.2).symm
 have hpl:x.p.length=y.p.length:=by
  have hb:(!decide ((x.p.length:Int)=(y.p.length:Int)))=false:=by assumption
  have h2:(x.p.length:Int)=(y.p.length:Int):=by simpa using hb
  omega
 conv=>whnf
 refine qg_ [1,2,15,16] (σ:=Nat) (fun i=>[(17,.int .i64 i)]) (fun _=>[.box (q7_ x).cells,.box (q7_ y).cells,.box [.fn 97 []]]) (fun i=>i≤x.p.length∧x.p.take i=y.p.take i) (fun i=>x.p.length-i) 0 ?_
 conv=>whnf
 refine ⟨(by (refine qa_ ?_;refine Sel4.mk rfl rfl ?_ ?_<;>(repeat' first|exact True.intro|exact rfl|exact .inl rfl|exact .inr rfl|refine And.intro ?_ ?_|fail))),⟨Nat.zero_le _,rfl⟩,fun i hi=>?_⟩
 obtain ⟨hi,hJ⟩:=hi
 repeat' first|(refine fun (b:Bool) hb=>?_;cases b<;>first|exact absurd hb (by decide)|exact nfl hb|exact nfr hb|skip)|refine ⟨_,rfl,?_,rfl,?_⟩|fail
 ·have hix:i=x.p.length := by
   have h:=of_decide_eq_false (by assumption:decide ((i:Int)<(x.p.length:Int))=false)
   omega
  subst hix
  rw [List.take_length,hpl,List.take_length] at hJ
  conv=>whnf
  refine hK _ ?_
  congr 1
  exact (decide_eq_true ⟨h1,h2,h3,hI,hJ⟩).symm
 ·have h:=of_decide_eq_true (by assumption:decide ((i:Int)<(x.p.length:Int))=true)
  omega
 ·have h:=of_decide_eq_true (by assumption:decide ((i:Int)<(x.p.length:Int))=true)
  omega
 have g1:i<x.p.length:=by
  have h:=of_decide_eq_true (by assumption:decide ((i:Int)<(x.p.length:Int))=true)
  omega
 have g2:i<y.p.length:=by omega
 conv=>whnf
 refine ⟨x.p[i],y.p[i],rfl,rfl,fun hne=>?_,?_⟩
 ·conv=>whnf
  refine hK _ ?_
  congr 1
  exact (decide_eq_false fun h=>hne (qjx_ h.2.2.2.2 g1 g2)).symm
 repeat' first|(refine fun (b:Bool) hb=>?_;cases b<;>first|exact absurd hb (by decide)|exact nfl hb|exact nfr hb|skip)|refine And.intro (a:=I64 _) ?_ ?_|fail
 ·have hm:x.p.length≤MAXL:=by assumption
  unfold I64;unfold MAXL at hm;omega
 ·have hbb:x.p[i]=y.p[i]:=by simpa using ‹(!decide (x.p[i]=y.p[i]))=false›
  conv=>whnf
  refine ⟨i+1,(by (refine qa_ ?_;refine Sel4.mk rfl rfl ?_ ?_<;>(repeat' first|exact True.intro|exact rfl|exact .inl rfl|exact .inr rfl|refine And.intro ?_ ?_|fail))),⟨g1,?_⟩,by omega⟩
  rw [List.take_succ_eq_append_getElem g1,List.take_succ_eq_append_getElem g2,hJ,hbb]
 ·have hne:¬ x.p[i]=y.p[i]:=by simpa using ‹(!decide (x.p[i]=y.p[i]))=true›
  conv=>whnf
  refine hK _ ?_
  congr 1
  exact (decide_eq_false fun h=>hne (qjx_ h.2.2.2.2 g1 g2)).symm
end Gv
namespace Gv
variable [Glob] [Laid]
theorem qyx_:qb_ Tryz.prog 50=true:=by kernel_rfl
def qsb_:Spec:=fun args K=>∃ a b:List Int,args=[.sl intV a,.sl intV b]∧K (.bool (decide (a=b)))
noncomputable def qu6_:List (Nat × Spec):=[]
noncomputable def qu5_:List (Nat × FnI):=[]
noncomputable def ql0_:List (Nat × qn_):=[]
theorem q4x_:EnvOK ⟨Tryz.prog,tys,qu6_,qu5_,ql0_,[]⟩:=qs_ qt_ tys0 .nil .nil .nil rfl
theorem qyy_:Pure Tryz.prog 50 qsb_:=by
 refine qp_ q4x_ 6 (fi:={fn:=Tryz.f50,hooks:=[],draws:=[(6,[0,0,3,7,0,0,48,112,255])]}) ⟨Tryz.func50,by kernel_rfl,by kernel_rfl⟩ ?_
 rintro _ K ⟨x,y,rfl,hK⟩
 replace hK:∀ r,r=.bool (decide (x=y))→K r:=fun r h=>h ▸ hK
 repeat' first|(refine fun (b:Bool) hb=>?_;cases b<;>first|exact absurd hb (by decide)|exact nfl hb|exact nfr hb|skip)|(refine fun (hl:_≤MAXL)=>?_)|fail
 rotate_left
 ·refine hK _ ?_
  congr 1
  grind
 conv=>whnf
 have hlen:x.length=y.length:=by grind
 refine qg_ [0,1,12] (σ:=Nat) (fun i=>[(13,.int .i64 i)]) (fun _=>[]) (fun i=>i≤x.length∧x.take i=y.take i) (fun i=>x.length-i) 0 ?_
 conv=>whnf
 refine ⟨(by (refine qf_ [] rfl rfl ?_ ?_<;>(repeat' first|exact True.intro|exact rfl|exact .inl rfl|exact .inr rfl|refine And.intro ?_ ?_|fail))),⟨Nat.zero_le _,rfl⟩,fun i hi=>?_⟩
 obtain ⟨hi,hI⟩:=hi
 repeat' first|(refine fun (b:Bool) hb=>?_;cases b<;>first|exact absurd hb (by decide)|exact nfl hb|exact nfr hb|skip)|refine And.intro (a:=I64 _) ?_ ?_|refine ⟨_,⟨rfl,rfl⟩,?_⟩|refine ⟨_,⟨_,rfl,?_,rfl,rfl,rfl⟩,?_⟩|fail
 ·refine hK _ ?_
  congr 1
  have e:x=y:=by
   have h1:x.take i=x:=List.take_of_length_le (by grind)
   have h2:y.take i=y:=List.take_of_length_le (by grind)
   rw [←h1,←h2,hI]
  simp [e]
 ·grind
 ·grind
 ·(first|omega|(unfold I64;omega)|(simp only [List.length_append,List.length_map,List.length_cons,List.length_nil,Nat.mul_one,Int.ofNat_eq_natCast] at *;omega)|(dsimp only at *;omega)|(unfold I64;dsimp only at *;omega)|(unfold I64;grind)|grind)
 ·have g1:i<x.length:=by grind
  have g2:i<y.length:=by grind
  refine ⟨i+1,(by (refine qf_ [] rfl rfl ?_ ?_<;>(repeat' first|exact True.intro|exact rfl|exact .inl rfl|exact .inr rfl|refine And.intro ?_ ?_|fail))),⟨by omega,?_⟩,by omega⟩
  rw [List.take_succ_eq_append_getElem g1,List.take_succ_eq_append_getElem g2,hI]
  have e:x[i]=y[i]:=by grind
  rw [e]
 ·refine hK _ ?_
  congr 1
  grind
end Gv
namespace Gv
variable [Glob] [Laid]
theorem zat_:qb_ Tryz.prog 45=true:=by kernel_rfl
def q8i_:qn_:=fun args rows K=>∃ (m:MachS),args=[q7_ m]∧ownZ m∧∀ Q,numK rows.length fun a=>numK (Nat.add rows.length 1) fun b=>appK rows [.row 4 (m.pipes.map qk_),.row 5 (qo_ Q m.p),.pack Q (q3_ m.p)] fun rows'=>K (.agg [.sl qh_ m.g,.sl qq_ m.f,.own a,.own b,.sl qd_ m.sunk]) rows'
theorem q1d_:q1_ Tryz.prog 45 q8i_:=by
 intro w0 m0 args rows K R m' q w us C hv hT
 obtain ⟨m,rfl,hz,hK⟩:=hT
 refine qtk_ (qm2_ q1f_) C (q3g_ hv rfl) ⟨m,rfl,rfl,hz,fun Q ex=>⟨[.row 4 (m.pipes.map qk_),.row 5 (qo_ Q m.p),.pack Q (q3_ m.p)],ex,_,rfl,Nat.zero_le _,?_,rfl,?_,?_,_,rfl,?_,?_⟩⟩
 ·intro y hy
  simp only [List.mem_cons,List.not_mem_nil,or_false] at hy
  rcases hy with rfl|rfl|rfl<;>rfl
 ·intro c hc
  simp only [List.mem_cons,List.not_mem_nil,or_false] at hc
  rcases hc with rfl|rfl|rfl|rfl|rfl
  ·exact .inl rfl
  ·exact .inl rfl
  ·exact .inr ⟨0,by simp,rfl⟩
  ·exact .inr ⟨1,by simp,rfl⟩
  ·exact .inl rfl
 ·intro y hy
  simp only [List.mem_cons,List.not_mem_nil,or_false] at hy
  rcases hy with rfl|rfl|rfl<;>rfl
 ·intro c hc
  simp only [List.mem_cons,List.not_mem_nil,or_false] at hc
  rcases hc with rfl|rfl|rfl|rfl|rfl
  ·exact .inl rfl
  ·exact .inl rfl
  ·exact .inr ⟨0,rfl⟩
  ·exact .inr ⟨1,rfl⟩
  ·exact .inl rfl
 ·exact appK_ok _ _ _ (wg_ _ _ (wg_ _ _ (hK Q)))
end Gv
namespace Gv
variable [Glob] [Laid]
theorem zd1_ {n:Nat} {k:Nat→Prop} (h:k n):numK n k:=by
 unfold numK
 split<;>exact h
theorem q1v_:∀ (l:Rows) (n:Nat) (y:Row) (k:Nat→Rows→Prop),k (n+l.length) (l++[y])→qaz_ n l y k
 | [],n,y,k,h=>zd1_ h
 | x :: r, n, y, k, h => q1v_ r (n + 1) y _ (by
     show k (n+1+r.length) (x::(r++[y]))
     rw [show n+1+r.length=n+(x::r).length by simp;omega]
     exact h)
theorem zbf_:∀ (l:Rows) (i:Nat) (y:Row) (k:Rows→Prop),i<l.length→k (l.set i y)→setK l i y k
 | x::r,0,y,k,_,h=>h
 | x::r,n+1,y,k,hl,h=>zbf_ r n y _ (by simpa using hl) h
 | [],n,y,k,hl,h=>by simp at hl
theorem evO6 {L:qe_} {t:Nat} {v:V} {k:V→Prop} (h:look L t=some v) (hk:k v):evO L (.tmp t) k:=by
 show (match look L t with|some v=>k v|none=>False)
 rw [h]
 exact hk
theorem z4_ {L:qe_} {d j:Nat} {v:V} (h:d≠j):look ((d,v)::L) j=look L j:=by
 show (match Nat.beq d j with|true=>some v|false=>look L j)=_
 cases hb:Nat.beq d j with
 | false=>rfl
 | true=>exact absurd (Nat.eq_of_beq_eq_true hb) h
theorem yo_ {L:qe_} {d:Nat} {v:V}:look ((d,v)::L) d=some v:=by
 show (match Nat.beq d d with|true=>some v|false=>look L d)=_
 rw [Nat.beq_refl]
theorem zw_ {sel:Nat→Bool} {i j:Nat} (h:j≠i):setF sel i j=sel j:=by
 unfold setF
 cases hb:Nat.beq j i with
 | false=>rfl
 | true=>exact absurd (Nat.eq_of_beq_eq_true hb) h
theorem qeg_ {rows:Rows} {j:Nat} {y x:Row} (h:nth rows j=some x):nth (rows++[y]) j=some x:=by
 rw [nth_eq] at h ⊢
 rw [List.getElem?_append_left (List.getElem?_eq_some_iff.1 h).1]
 exact h
theorem qsv_ {rows:Rows} {y:Row}:nth (rows++[y]) rows.length=some y:=by
 rw [nth_eq]
 simp
theorem wf_ {rows:Rows} {j:Nat} {x:Row} (h:nth rows j=some x):j<rows.length:=by
 rw [nth_eq] at h;exact (List.getElem?_eq_some_iff.1 h).1
theorem qeh_ {rows:Rows} {i j:Nat} {y x:Row} (h:nth rows j=some x) (hn:i≠j):nth (rows.set i y) j=some x:=by
 rw [nth_eq] at h ⊢
 rw [List.getElem?_set_ne hn]
 exact h
theorem qmv_ {rows:Rows} {i:Nat} {y x:Row} (h:nth rows i=some x):nth (rows.set i y) i=some y:=by
 have:=wf_ h
 rw [nth_eq];simp [this]
def q5z_ (ops:Array Oper) (p:Nat × Nat):Bool:=match ops[p.1]? with|some o=>o.after.toList.any fun e=>Region.binds .any e && Nat.beq e.on p.2|none=>false
theorem zah_ {ops:Array Oper} {i j:Nat} (h:q5z_ ops (i,j)=true) {o:Oper} (ho:ops[i]?=some o) {sel:Nat→Bool} (hall:∀ e∈o.after,Region.binds .any e=true→sel e.on=true):sel j=true:=by
 unfold q5z_ at h
 dsimp only at h
 rw [ho] at h
 dsimp only at h
 rw [List.any_eq_true] at h
 obtain ⟨e,he,hb⟩:=h
 rw [Bool.and_eq_true] at hb
 have:=hall e (by simpa using he) hb.1
 rwa [Nat.eq_of_beq_eq_true hb.2] at this
noncomputable abbrev e6:Env:=⟨Tryz.prog,tys,[],[],[],[]⟩
theorem e6_ok:EnvOK e6:=qs_ qt_ tys0 .nil .nil .nil rfl
def tab6 (g:List Gp.Node) (n:Gp.Node) (i:Nat):List (Nat × V):=[(34,.ptr 0 0 0),(35,.ptr 0 0 0),(36,.ptr 0 0 3),(37,.own 2),(38,.int .i64 i),(39,.ptr 2 i 0),(40,.ptr 0 0 0),(41,.ptr 0 0 0),(42,.ptr 0 0 0),(43,.ptr 0 0 0),(44,.sl qh_ g),(45,.int .i64 i),(46,.elt (qh_ n) 0),(47,qh_ n)]
theorem qdn_ {g:List Gp.Node} {n:Gp.Node} {i j d:Nat} {v:V} (h:(tab6 g n i)[j]?=some (d,v)):d=34+j∧j<14:=by
 have hj:=(List.getElem?_eq_some_iff.1 h).1
 have hj:j<14:=hj
 have hj2:j=0∨j=1∨j=2∨j=3∨j=4∨j=5∨j=6∨j=7∨j=8∨j=9∨j=10∨j=11∨j=12∨j=13:=by omega
 rcases hj2 with rfl|rfl|rfl|rfl|rfl|rfl|rfl|rfl|rfl|rfl|rfl|rfl|rfl|rfl<;>(cases h;exact ⟨rfl,by decide⟩)
structure I6 (g:List Gp.Node) (n:Gp.Node) (k:Nat) (L0:qe_) (B:Rows) (sel:Nat→Bool) (L:qe_) (rows:Rows):Prop where
 keep:∀ j v,look L0 j=some v→look L j=some v
 base:∀ r x,nth B r=some x→nth rows r=some x
 tab:∀ j d v,(tab6 g n k)[j]?=some (d,v)→sel j=true→look L d=some v
 len:rows.length=B.length+(if sel 14=true then 1 else 0)+(if sel 15=true then 1 else 0)
 d16:sel 16=true→sel 14=true
 d17:sel 17=true→sel 15=true
 t7:sel 14=true→∃ r x,look L 7=some (.ptr r 0 0)∧nth rows r=some (.box [x])∧(sel 16=true→x=.ptr 2 k 0)∧B.length≤r
 t8:sel 15=true→∃ r c1 c2 c3 c4 c5 c6 c7 c8,look L 8=some (.ptr r 0 0)∧nth rows r=some (.box [c1,c2,c3,c4,c5,c6,c7,c8])∧(sel 17=true→[c1,c2,c3,c4,c5,c6,c7,c8]=(qh_ n).cells)∧B.length≤r
 ne:sel 14=true→sel 15=true→look L 7≠look L 8
theorem I6.look {g:List Gp.Node} {n:Gp.Node} {k:Nat} {L0:qe_} {B:Rows} {sel:Nat→Bool} {L:qe_} {rows:Rows} (I:I6 g n k L0 B sel L rows) (hL0:∀ d,34≤d→d<48→Gv.look L0 d=none) {j:Nat} {v:V} (h:(tab6 g n k)[j]?=some (34+j,v)):I6 g n k L0 B (setF sel j) (putV (some (34+j)) v L) rows:=by
 obtain ⟨-,hj⟩:=qdn_ h
 have h7:∀ x,x=7∨x=8→Gv.look (putV (some (34+j)) v L) x=Gv.look L x:=fun x hx=>z4_ (by omega)
 have s:∀ x,14≤x→setF sel j x=sel x:=fun x hx=>zw_ (by omega)
 refine ⟨fun x w hx=>?_,I.base,fun x d w hx hs=>?_,?_,?_,?_,?_,?_,?_⟩
 ·have:(34+j)≠x := fun e => by
   have:=hL0 x (by omega) (by omega)
   rw [this] at hx;cases hx
  rw [show Gv.look (putV (some (34+j)) v L) x=Gv.look L x from z4_ this]
  exact I.keep x w hx
 ·obtain ⟨e,hx2⟩:=qdn_ hx
  subst e
  by_cases e:x=j
  ·subst e
   rw [h] at hx
   cases hx
   exact yo_
  ·rw [show Gv.look (putV (some (34+j)) v L) (34+x)=Gv.look L (34+x) from z4_ (by omega)]
   rw [zw_ e] at hs
   exact I.tab x _ w hx hs
 ·rw [s 14 (by omega),s 15 (by omega)];exact I.len
 ·rw [s 16 (by omega),s 14 (by omega)];exact I.d16
 ·rw [s 17 (by omega),s 15 (by omega)];exact I.d17
 ·rw [s 16 (by omega),s 14 (by omega),h7 7 (.inl rfl)];exact I.t7
 ·rw [s 17 (by omega),s 15 (by omega),h7 8 (.inr rfl)];exact I.t8
 ·rw [s 14 (by omega),s 15 (by omega),h7 7 (.inl rfl),h7 8 (.inr rfl)];exact I.ne
noncomputable def ops6:List (Op × Option Nat × Option (Nat × Bool)):=[(.load 95 (.tmp 2),some 34,none),(.nilCheck (.tmp 34),some 35,none),(.fieldAddr 30 (.tmp 35) 3,some 36,none),(.load 27 (.tmp 36),some 37,none),(.move (.tmp 1),some 38,none),(.indexAddr 27 (.tmp 37) (.tmp 38),some 39,none),(.load 95 (.tmp 2),some 40,none),(.nilCheck (.tmp 40),some 41,none),(.fieldAddr 30 (.tmp 41) 0,some 42,none),(.fieldAddr 24 (.tmp 42) 0,some 43,none),(.load 22 (.tmp 43),some 44,none),(.move (.tmp 1),some 45,none),(.indexAddr 22 (.tmp 44) (.tmp 45),some 46,none),(.load 41 (.tmp 46),some 47,none),(.alloc 148,some 7,none),(.alloc 41,some 8,none),(.store 148 (.tmp 7) (.tmp 39),none,none),(.store 41 (.tmp 8) (.tmp 47),none,none)]
def need6:List (Nat × Nat):=[(1,0),(2,1),(3,2),(5,3),(5,4),(7,6),(8,7),(9,8),(10,9),(12,10),(12,11),(13,12),(16,14),(16,5),(17,15),(17,13)]
theorem zd5_ {g:List Gp.Node} {k:Nat} (hk:k<g.length) {L0:qe_} {B:Rows} {els:List V} {fs p1 sk:V} {ops:Array Oper} {call:xo_} (hops:ops.toList.map (fun o => (o.op, o.dst, o.guard))=ops6) (hneed:need6.all (q5z_ ops)=true)
  (h1:look L0 1=some (.int .i64 k)) (h2:look L0 2=some (.ptr 5 0 0)) (hL0:∀ d,34≤d→d<48→look L0 d=none) (h7:look L0 7=none) (h8:look L0 8=none)
  (b0:nth B 0=some (.box [.sl qh_ g,fs,p1,.own 2,sk])) (b2:nth B 2=some (.rowq 5 els)) (b5:nth B 5=some (.box [.ptr 0 0 0])) (hel:k<els.length) :
  qxk_ e6 call ops (I6 g g[k] k L0 B):=by
 intro sel L rows i o ho hs hall I
 have hz:ops.size=18:=by
  have:=congrArg List.length hops
  simpa [ops6] using this
 have hi:i<18:=by rw [←hz];exact (Array.getElem?_eq_some_iff.1 ho).1
 have ho2:ops6[i]?=some (o.op,o.dst,o.guard):=by
  rw [←hops,List.getElem?_map,Array.getElem?_toList,ho];rfl
 have nd:∀ j,(i,j)∈need6→sel j=true:=fun j hj=>zah_ (List.all_eq_true.1 hneed _ hj) ho hall
 have B0:=I.base 0 _ b0
 have B2:=I.base 2 _ b2
 have B5:=I.base 5 _ b5
 have L1:=I.keep 1 _ h1
 have L2:=I.keep 2 _ h2
 have tb:∀ j v,(tab6 g g[k] k)[j]?=some (34+j,v)→(i,j)∈need6→look L (34+j)=some v:=fun j v hj hm=>I.tab j _ v hj (nd j hm)
 have fin:∀ {op:Op} {d:Option Nat} {gd:Option (Nat × Bool)},ops6[i]?=some (op,d,gd)→gd=none→(xop e6 call true L rows op fun v rows'=>I6 g g[k] k L0 B (setF sel i) (putV d v L) rows')→o.guard=none∧xop e6 call true L rows o.op fun v rows'=>I6 g g[k] k L0 B (setF sel i) (putV o.dst v L) rows':=fun {op d gd} h hg hx=>by
  rw [h] at ho2
  cases ho2
  exact ⟨hg,hx⟩
 have hi2:i=0∨i=1∨i=2∨i=3∨i=4∨i=5∨i=6∨i=7∨i=8∨i=9∨i=10∨i=11∨i=12∨i=13∨i=14∨i=15∨i=16∨i=17:=by omega
 rcases hi2 with rfl|rfl|rfl|rfl|rfl|rfl|rfl|rfl|rfl|rfl|rfl|rfl|rfl|rfl|rfl|rfl|rfl|rfl
 ·refine fin rfl rfl (evO6 L2 ?_)
  conv=>whnf
  rw [B5]
  conv=>whnf
  exact I.look hL0 (j:=0) rfl
 ·refine fin rfl rfl (evO6 (tb 0 _ rfl (by decide)) ?_)
  exact I.look hL0 (j:=1) rfl
 ·refine fin rfl rfl ?_
  conv=>whnf
  rw [tb 1 _ rfl (by decide)]
  conv=>whnf
  exact I.look hL0 (j:=2) rfl
 ·refine fin rfl rfl (evO6 (tb 2 _ rfl (by decide)) ?_)
  conv=>whnf
  rw [B0]
  conv=>whnf
  exact I.look hL0 (j:=3) rfl
 ·refine fin rfl rfl (evO6 L1 ?_)
  exact I.look hL0 (j:=4) rfl
 ·refine fin rfl rfl ?_
  conv=>whnf
  rw [tb 3 _ rfl (by decide)]
  conv=>whnf
  rw [tb 4 _ rfl (by decide)]
  conv=>whnf
  rw [B2]
  conv=>whnf
  refine ⟨rfl,k,rfl,hel,?_⟩
  exact I.look hL0 (j:=5) rfl
 ·refine fin rfl rfl (evO6 L2 ?_)
  conv=>whnf
  rw [B5]
  conv=>whnf
  exact I.look hL0 (j:=6) rfl
 ·refine fin rfl rfl (evO6 (tb 6 _ rfl (by decide)) ?_)
  exact I.look hL0 (j:=7) rfl
 ·refine fin rfl rfl ?_
  conv=>whnf
  rw [tb 7 _ rfl (by decide)]
  conv=>whnf
  exact I.look hL0 (j:=8) rfl
 ·refine fin rfl rfl ?_
  conv=>whnf
  rw [tb 8 _ rfl (by decide)]
  conv=>whnf
  exact I.look hL0 (j:=9) rfl
 ·refine fin rfl rfl (evO6 (tb 9 _ rfl (by decide)) ?_)
  conv=>whnf
  rw [B0]
  conv=>whnf
  exact I.look hL0 (j:=10) rfl
 ·refine fin rfl rfl (evO6 L1 ?_)
  exact I.look hL0 (j:=11) rfl
 ·refine fin rfl rfl ?_
  conv=>whnf
  rw [tb 10 _ rfl (by decide)]
  conv=>whnf
  rw [tb 11 _ rfl (by decide)]
  conv=>whnf
  refine ⟨k,rfl,hk,rfl,?_⟩
  exact I.look hL0 (j:=12) rfl
 ·refine fin rfl rfl (evO6 (tb 12 _ rfl (by decide)) ?_)
  conv=>whnf
  exact I.look hL0 (j:=13) rfl
 ·have s16:sel 16=false := by
   cases h:sel 16 with
   | false=>rfl
   | true=>have:=I.d16 h;rw [hs] at this;cases this
  refine fin rfl rfl ?_
  conv=>whnf
  refine q1v_ _ _ _ _ ?_
  rw [Nat.zero_add]
  refine ⟨fun x w hx=>?_,fun r x hx=>qeg_ (I.base r x hx),fun x d w hx hsx=>?_,?_,fun h=>?_,fun h=>?_,fun h=>?_,fun h=>?_,fun h h'=>?_⟩
  ·rw [show look (putV (some 7) (.ptr rows.length 0 0) L) x=look L x from z4_ (fun e=>by subst e;rw [h7] at hx;cases hx)]
   exact I.keep x w hx
  ·obtain ⟨e,hx2⟩:=qdn_ hx
   subst e
   rw [show look (putV (some 7) (.ptr rows.length 0 0) L) (34+x)=look L (34+x) from z4_ (by omega)]
   rw [zw_ (by omega)] at hsx
   exact I.tab x _ w hx hsx
  ·rw [List.length_append,I.len,hs,qj6_,zw_ (by decide)]
   simp;omega
  ·exact qj6_ _ _
  ·rw [zw_ (by decide)] at h ⊢
   exact I.d17 h
  ·refine ⟨rows.length,_,yo_,qsv_,fun h=>?_,by rw [I.len];omega⟩
   rw [zw_ (by decide),s16] at h
   cases h
  ·rw [zw_ (by decide)] at h
   obtain ⟨r,c1,c2,c3,c4,c5,c6,c7,c8,g1,g2,g3,g4⟩:=I.t8 h
   exact ⟨r,c1,c2,c3,c4,c5,c6,c7,c8,(z4_ (by decide)).trans g1,qeg_ g2,by rw [zw_ (by decide)];exact g3,g4⟩
  ·rw [zw_ (by decide)] at h'
   obtain ⟨r,c1,c2,c3,c4,c5,c6,c7,c8,g1,g2,g3,g4⟩:=I.t8 h'
   show look ((7,_)::L) 7≠look ((7,_)::L) 8
   rw [yo_,z4_ (by decide),g1]
   intro e
   have:=wf_ g2
   cases e;omega
 ·have s17:sel 17=false := by
   cases h:sel 17 with
   | false=>rfl
   | true=>have:=I.d17 h;rw [hs] at this;cases this
  refine fin rfl rfl ?_
  conv=>whnf
  refine q1v_ _ _ _ _ ?_
  rw [Nat.zero_add]
  refine ⟨fun x w hx=>?_,fun r x hx=>qeg_ (I.base r x hx),fun x d w hx hsx=>?_,?_,fun h=>?_,fun h=>?_,fun h=>?_,fun h=>?_,fun h h'=>?_⟩
  ·rw [show look (putV (some 8) (.ptr rows.length 0 0) L) x=look L x from z4_ (fun e=>by subst e;rw [h8] at hx;cases hx)]
   exact I.keep x w hx
  ·obtain ⟨e,hx2⟩:=qdn_ hx
   subst e
   rw [show look (putV (some 8) (.ptr rows.length 0 0) L) (34+x)=look L (34+x) from z4_ (by omega)]
   rw [zw_ (by omega)] at hsx
   exact I.tab x _ w hx hsx
  ·rw [List.length_append,I.len,hs,qj6_,zw_ (by decide)]
   simp
  ·rw [zw_ (by decide)] at h ⊢
   exact I.d16 h
  ·exact qj6_ _ _
  ·rw [zw_ (by decide)] at h
   obtain ⟨r,x,g1,g2,g3,g4⟩:=I.t7 h
   exact ⟨r,x,(z4_ (by decide)).trans g1,qeg_ g2,by rw [zw_ (by decide)];exact g3,g4⟩
  ·refine ⟨rows.length,_,_,_,_,_,_,_,_,yo_,qsv_,fun h=>?_,by rw [I.len];omega⟩
   rw [zw_ (by decide),s17] at h
   cases h
  ·rw [zw_ (by decide)] at h
   obtain ⟨r,x,g1,g2,g3,g4⟩:=I.t7 h
   show look ((8,_)::L) 7≠look ((8,_)::L) 8
   rw [yo_,z4_ (by decide),g1]
   intro e
   have:=wf_ g2
   cases e;omega
 ·have s14:sel 14=true:=nd 14 (by decide)
  obtain ⟨r,x,g1,g2,g3,g4⟩:=I.t7 s14
  refine fin rfl rfl (evO6 g1 (evO6 (tb 5 _ rfl (by decide)) ?_))
  conv=>whnf
  rw [g2]
  conv=>whnf
  refine zbf_ _ _ _ _ (wf_ g2) ?_
  have sf:∀ x,x≠16→setF sel 16 x=sel x:=fun x hx=>zw_ hx
  have nB:∀ r' x,nth B r'=some x→r≠r':=fun r' x h=>by have:=wf_ h;omega
  refine ⟨I.keep,fun r' x hx=>qeh_ (I.base r' x hx) (nB r' x hx),fun x d w hx hsx=>?_,?_,fun _=>by rw [sf 14 (by decide)];exact s14,?_,fun _=>⟨r,_,g1,qmv_ g2,fun _=>rfl,g4⟩,fun h=>?_,?_⟩
  ·obtain ⟨e,hx2⟩:=qdn_ hx
   rw [sf x (by omega)] at hsx
   exact I.tab x d w hx hsx
  ·rw [List.length_set,sf 14 (by decide),sf 15 (by decide)];exact I.len
  ·rw [sf 17 (by decide),sf 15 (by decide)];exact I.d17
  ·rw [sf 15 (by decide)] at h
   obtain ⟨r',c1,c2,c3,c4,c5,c6,c7,c8,k1,k2,k3,k4⟩:=I.t8 h
   exact ⟨r',c1,c2,c3,c4,c5,c6,c7,c8,k1,qeh_ k2 (fun e=>by subst e;exact I.ne s14 h (g1.trans k1.symm)),by rw [sf 17 (by decide)];exact k3,k4⟩
  ·rw [sf 14 (by decide),sf 15 (by decide)];exact I.ne
 ·have s15:sel 15=true:=nd 15 (by decide)
  obtain ⟨r,c1,c2,c3,c4,c5,c6,c7,c8,g1,g2,g3,g4⟩:=I.t8 s15
  refine fin rfl rfl (evO6 g1 (evO6 (tb 13 _ rfl (by decide)) ?_))
  conv=>whnf
  rw [g2]
  conv=>whnf
  refine zbf_ _ _ _ _ (wf_ g2) ?_
  have sf:∀ x,x≠17→setF sel 17 x=sel x:=fun x hx=>zw_ hx
  have nB:∀ r' x,nth B r'=some x→r≠r':=fun r' x h=>by have:=wf_ h;omega
  refine ⟨I.keep,fun r' x hx=>qeh_ (I.base r' x hx) (nB r' x hx),fun x d w hx hsx=>?_,?_,?_,fun _=>by rw [sf 15 (by decide)];exact s15,fun h=>?_,fun _=>⟨r,_,_,_,_,_,_,_,_,g1,qmv_ g2,fun _=>rfl,g4⟩,?_⟩
  ·obtain ⟨e,hx2⟩:=qdn_ hx
   rw [sf x (by omega)] at hsx
   exact I.tab x d w hx hsx
  ·rw [List.length_set,sf 14 (by decide),sf 15 (by decide)];exact I.len
  ·rw [sf 16 (by decide),sf 14 (by decide)];exact I.d16
  ·rw [sf 14 (by decide)] at h
   obtain ⟨r',x,k1,k2,k3,k4⟩:=I.t7 h
   exact ⟨r',x,k1,qeh_ k2 (fun e=>by subst e;exact I.ne h s15 (k1.trans g1.symm)),by rw [sf 16 (by decide)];exact k3,k4⟩
  ·rw [sf 14 (by decide),sf 15 (by decide)];exact I.ne
theorem sim6 {w0:Start} {m0 mb:Mem} {qb:Loc} {n:Nat} {L L':qe_} {rows:Rows} {a:Act} {w:World} (h:∀ t v,look L' t=some v→look L t=some v) (S:SIM w0 m0 mb qb n L rows a w):SIM w0 m0 mb qb n L' rows a w:=by
 obtain ⟨⟨R,m,q,s1,s2,s3,s4⟩,s5,s6⟩:=S
 exact ⟨⟨R,m,q,s1,s2,fun t v e=>s3 t v (h t v e),s4⟩,s5,s6⟩
theorem qcm_ {L0 L1:qe_} {d:Nat} {v:V} (h:look L0 d=some v) (hs:∀ j w,look L1 j=some w→look L0 j=some w):∀ j w,look ((d,v)::L1) j=some w→look L0 j=some w:=fun j w hj=>by
 by_cases e:d=j
 ·subst e;rw [yo_] at hj;rw [←hj];exact h
 ·rw [z4_ e] at hj;exact hs j w hj
theorem zdm_ {B rows:Rows} {x y:Row} {r:Nat} (hb:∀ r x,nth B r=some x→nth rows r=some x) (hl:rows.length=B.length+2) (hx:nth rows B.length=some x) (hy:nth rows (B.length+1)=some y):rows=B++[x,y]:=by
 refine List.ext_getElem? fun j=>?_
 rcases Nat.lt_or_ge j B.length with h|h
 ·rw [List.getElem?_append_left h,List.getElem?_eq_getElem h]
  have:=hb j B[j] (by rw [nth_eq,List.getElem?_eq_getElem h])
  rwa [nth_eq] at this
 ·rw [List.getElem?_append_right h]
  rw [nth_eq] at hx hy
  obtain ⟨d,rfl⟩:∃ d,j=B.length+d:=⟨j-B.length,by omega⟩
  rw [Nat.add_sub_cancel_left]
  match d with
  | 0=>exact hx
  | 1=>exact hy
  | d+2=>rw [List.getElem?_eq_none (by omega)];simp
theorem za7_ {g:List Gp.Node} {k:Nat} (hk:k<g.length) {L0:qe_} (L1:qe_) {B:Rows} {els:List V} {fs p1 sk:V} {id:Nat} {ops:Array Oper} {W:qe_→Rows→(qe_→Rows→Prop)→Prop} {K:qe_→Rows→Prop} (hops:ops.toList.map (fun o => (o.op, o.dst, o.guard))=ops6) (hneed:need6.all (q5z_ ops)=true) (hback:zce_ ops=true)
  (h1:look L0 1=some (.int .i64 k)) (h2:look L0 2=some (.ptr 5 0 0)) (hL0:∀ d,34≤d→d<48→look L0 d=none) (h7:look L0 7=none) (h8:look L0 8=none)
  (b0:nth B 0=some (.box [.sl qh_ g,fs,p1,.own 2,sk])) (b2:nth B 2=some (.rowq 5 els)) (b5:nth B 5=some (.box [.ptr 0 0 0])) (hel:k<els.length)
  (hsub:∀ j v,look L1 j=some v→look L0 j=some v)
  (hW:Wk B.length ((8,.ptr B.length 0 0)::(7,.ptr (B.length+1) 0 0)::L1) (B++[.box (qh_ g[k]).cells,.box [.ptr 2 k 0]]) ((8,.ptr (B.length+1) 0 0)::(7,.ptr B.length 0 0)::L1) (B++[.box [.ptr 2 k 0],.box (qh_ g[k]).cells]))
  (hK:K ((8,.ptr (B.length+1) 0 0)::(7,.ptr B.length 0 0)::L1) (B++[.box [.ptr 2 k 0],.box (qh_ g[k]).cells])) :
  Borrow Tryz.prog (.region id ops true) ops.toList W L0 B K:=by
 refine .sem fun w0 m0 mb qb n a w Q hds S hQ=>?_
 have hqb:∀ r x,qb r=some x→r<B.length:=by
  obtain ⟨⟨R,m,q,s1,s2,s3,s4,s5⟩,s6,s7⟩:=S
  exact fun r x h=>s2.fresh r x (s5 r x h)
 refine q32_ (E:=e6) e6_ok (qbp_ e6_ok 0) hds hback (Inv:=I6 g g[k] k L0 B) ⟨fun _ _ h=>h,fun _ _ h=>h,nofun,rfl,nofun,nofun,nofun,nofun,nofun⟩ (zd5_ hk hops hneed h1 h2 hL0 h7 h8 b0 b2 b5 hel) (fun sel L rows a w hall I S'=>?_) S
 have hz:ops.size=18:=by
  have:=congrArg List.length hops
  simpa [ops6] using this
 have s14:=hall 14 (by omega)
 have s15:=hall 15 (by omega)
 have s16:=hall 16 (by omega)
 have s17:=hall 17 (by omega)
 obtain ⟨r,x,g1,g2,g3,g4⟩:=I.t7 s14
 obtain ⟨r',c1,c2,c3,c4,c5,c6,c7,c8,k1,k2,k3,k4⟩:=I.t8 s15
 have hl:=I.len
 rw [if_pos s14,if_pos s15] at hl
 rw [g3 s16] at g2
 rw [k3 s17] at k2
 have hne:r≠r':=fun e=>by subst e;exact I.ne s14 s15 (g1.trans k1.symm)
 have hr1:=wf_ g2
 have hr2:=wf_ k2
 have hcase:r=B.length∧r'=B.length+1∨r=B.length+1∧r'=B.length:=by omega
 have hs:∀ {u v:V},look L 7=some u→look L 8=some v→∀ j w,look ((8,v)::(7,u)::L1) j=some w→look L j=some w:=fun h9 h10 j w hj=>by
  by_cases e:j=8
  ·subst e;rw [yo_] at hj;rw [←hj];exact h10
  ·rw [z4_ (fun h=>e h.symm)] at hj
   by_cases e2:j=7
   ·subst e2;rw [yo_] at hj;rw [←hj];exact h9
   ·rw [z4_ (fun h=>e2 h.symm)] at hj
    exact I.keep j w (hsub j w hj)
 rcases hcase with ⟨rfl,rfl⟩|⟨rfl,rfl⟩
 ·have hrows:=zdm_ (r:=0) I.base hl g2 k2
  subst hrows
  exact hQ _ _ _ _ hK (sim6 (hs g1 k1) S')
 ·have hrows:=zdm_ (r:=0) I.base hl k2 g2
  subst hrows
  exact hQ _ _ _ _ hK (hW.sim _ _ _ _ _ _ _ hqb (sim6 (hs g1 k1) S'))
end Gv
namespace Gv
variable [Glob] [Laid]
def frsN (N:List Gp.Node) (k:Nat):List V:=(List.range N.length).map fun i=>.int .i64 (if i<k then (insB N i:Int) else 0)
theorem qak_ (N:List Gp.Node) (k:Nat):(frsN N k).length=N.length:=by simp [frsN]
theorem qi7_ {N:List Gp.Node} {k i:Nat} (h:i<N.length):(frsN N k)[i]?=some (.int .i64 (if i<k then (insB N i:Int) else 0)):=by
 unfold frsN
 rw [List.getElem?_map,List.getElem?_range h]
 rfl
theorem zcx_ (N:List Gp.Node):frsN N 0=List.replicate N.length (.int .i64 0):=by
 unfold frsN
 refine List.ext_getElem? fun i=>?_
 rw [List.getElem?_map,List.getElem?_replicate]
 by_cases h:i<N.length
 ·rw [List.getElem?_range h,if_pos h];rfl
 ·rw [List.getElem?_eq_none (by simpa using h),if_neg h];rfl
theorem q47_ {N:List Gp.Node} {k:Nat} (h:k<N.length):(frsN N k).set k (.int .i64 (insB N k:Int))=frsN N (k+1):=by
 refine List.ext_getElem? fun i=>?_
 rw [List.getElem?_set,qak_]
 by_cases e:k=i
 ·subst e
  rw [if_pos rfl,if_pos h,qi7_ h,if_pos (by omega)]
 ·rw [if_neg e]
  by_cases hi:i<N.length
  ·rw [qi7_ hi,qi7_ hi]
   by_cases h2:i<k
   ·rw [if_pos h2,if_pos (by omega)]
   ·rw [if_neg h2,if_neg (by omega)]
  ·rw [List.getElem?_eq_none (by rw [qak_];omega),List.getElem?_eq_none (by rw [qak_];omega)]
def InsU (N:List Gp.Node) (u:List (List Int × Int)) (n:Nat):Prop:=∀ t (h:t<(qr_ N).length),t<n→mget 0 u (keyP (qr_ N)[t])=(t:Int)
theorem qzu_ {N:List Gp.Node} {u:List (List Int × Int)} {n:Nat} (hn:(qr_ N).Nodup) (h:InsU N u n) {p:Port} (hp:(qr_ N)[n]?=some p):InsU N (mput u (keyP p) (n:Int)) (n+1):=fun t ht hlt=>by
 obtain ⟨hl,hp⟩:=List.getElem?_eq_some_iff.1 hp
 rw [qee_]
 by_cases e:t=n
 ·subst e
  rw [if_pos (by rw [hp])]
 ·rw [if_neg,h t ht (by omega)]
  intro e2
  have e3:=qso_ e2
  rw [←hp] at e3
  have e4:=List.Nodup.idxOf_getElem hn _ hl
  rw [e3,List.Nodup.idxOf_getElem hn _ ht] at e4
  exact e e4
theorem q1i_:qb_ Tryz.prog 108=true:=by kernel_rfl
def qs2_:qn_:=fun args rows K=>∃ N:List Gp.Node,args=[.agg [.sl qh_ N]]∧rows=[]∧zt_ N=0∧∀ u:List (List Int × Int),InsU N u (qr_ N).length→K (.tup [.fn 157 [.ptr 0 0 0],.map 2]) [.box [.own 1],.row 1 (frsN N N.length),.mp 47 3 .pair intV u]
noncomputable def qwe_:List (Nat × Spec):=[]
noncomputable def qwd_:List (Nat × FnI):=[]
noncomputable def qm0_:List (Nat × qn_):=[]
theorem q6e_:EnvOK ⟨Tryz.prog,tys,qwe_,qwd_,qm0_,[(47,[true,true])]⟩:=qs_ qt_ tys0 .nil .nil .nil (by kernel_rfl)
theorem qqi_:q1_ Tryz.prog 108 qs2_:=by
 refine xm_ q6e_ 6 q1i_ (fi:={fn:=Tryz.f108,hooks:=[15],draws:=[]}) ⟨Tryz.func108,by kernel_rfl,by kernel_rfl⟩ ?_
 rintro args rows K ⟨N,rfl,rfl,hc,hK⟩
 have hg:=gf_of hc
 have hnl:=hg.len.2
 have hsm:=z0_ hc
 repeat' first|(refine fun (hl:_≤MAXL)=>?_)|refine ⟨rfl,?_⟩|fail
 conv=>whnf
 refine ⟨N.length,rfl,by show N.length*8≤_;omega,?_⟩
 repeat' first|refine ⟨Int,intV,?_⟩|fail
 conv=>whnf
 refine ql_ [] (σ:=List (List Int × Int)) (fun _=>[(4,.ptr 0 0 0),(3,.map 2)]) (fun u=>[.box [.own 1],.row 1 (frsN N N.length),.mp 47 3 .pair intV u]) (fun u=>InsU N u (qr_ N).length) ?_
 conv=>whnf
 refine ⟨?_,fun u hu=>?_⟩
 ·repeat' first|(refine fun (hl:_≤MAXL)=>?_)|fail
  conv=>whnf
  refine qg_ [3,4,16,17] (σ:=Nat × List (List Int × Int)) (fun s=>[(18,.int .i64 s.1),(5,.int .i64 (insB N s.1:Nat))]) (fun s=>[.box [.sl qh_ N],.row 1 (frsN N s.1),.box [.own 1],.mp 47 3 .pair intV s.2]) (fun s=>s.1≤N.length∧InsU N s.2 (insB N s.1)) (fun s=>N.length-s.1) (0,[]) ?_
  conv=>whnf
  refine ⟨?_,⟨Nat.zero_le _,fun t _ h=>absurd h (by rw [qzt_];omega)⟩,fun s hs=>?_⟩
  ·dsimp only
   rw [zcx_,qzt_]
   exact (by (refine qf_ [some 0,some 1,some 2,some 3] rfl rfl ?_ ?_<;>(repeat' first|exact True.intro|exact rfl|exact .inl rfl|exact .inr rfl|refine And.intro ?_ ?_|fail)))
  obtain ⟨j,u⟩:=s
  obtain ⟨hj,hu⟩:=hs
  dsimp only at hj hu
  repeat' first|(refine fun (b:Bool) hb=>?_;cases b<;>first|exact absurd hb (by decide)|exact nfl hb|exact nfr hb|skip)|refine ⟨_,rfl,?_,rfl,?_⟩|refine ⟨rfl,?_⟩|fail
  ·have hjl:j=N.length := by
    have h:=of_decide_eq_false (by assumption:decide ((j:Int)<(N.length:Int))=false)
    omega
   subst hjl
   rw [yi_] at hu
   conv=>whnf
   exact ⟨u,(by (refine qf_ [some 2,some 1,some 3] rfl rfl ?_ ?_<;>(repeat' first|exact True.intro|exact rfl|exact .inl rfl|exact .inr rfl|refine And.intro ?_ ?_|fail))),hu⟩
  ·have h:=of_decide_eq_true (by assumption:decide ((j:Int)<(N.length:Int))=true)
   show j<N.length
   omega
  have hj2:j<N.length:=by
   have h:=of_decide_eq_true (by assumption:decide ((j:Int)<(N.length:Int))=true)
   omega
  have hbs:=x4_ hj2
  have hbm:=y7_ (N:=N) (i:=j+1) (j:=N.length) (by omega) (Nat.le_refl _)
  rw [yi_] at hbm
  have hni:nI N j=N[j].ins.length:=by unfold nI;rw [xb_ hj2]
  refine ⟨j,rfl,by rw [qak_];exact hj2,?_⟩
  conv=>whnf
  refine ⟨by rw [qak_];exact hj2,?_⟩
  conv=>whnf
  rw [q47_ hj2]
  repeat' first|(refine fun (hl:_≤MAXL)=>?_)|fail
  conv=>whnf
  refine qg_ [3,4,5,7,16,17,18,28,29] (σ:=Nat × List (List Int × Int)) (fun s=>[(30,.int .i64 s.1)]) (fun s=>[.box [.sl qh_ N],.row 1 (frsN N (j+1)),.box [.own 1],.mp 47 3 .pair intV s.2,.box (qh_ N[j]).cells]) (fun s=>s.1≤N[j].ins.length∧InsU N s.2 (insB N j+s.1)) (fun s=>N[j].ins.length-s.1) (0,u) ?_
  conv=>whnf
  refine ⟨(by (refine qf_ [some 0,some 1,some 2,some 3,some 4] rfl rfl ?_ ?_<;>(repeat' first|exact True.intro|exact rfl|exact .inl rfl|exact .inr rfl|refine And.intro ?_ ?_|fail))),⟨Nat.zero_le _,hu⟩,fun s hs=>?_⟩
  obtain ⟨k,v⟩:=s
  obtain ⟨hk,hv⟩:=hs
  dsimp only at hk hv
  repeat' first|(refine fun (b:Bool) hb=>?_;cases b<;>first|exact absurd hb (by decide)|exact nfl hb|exact nfr hb|skip)|(refine fun (hl:_≤MAXL)=>?_)|refine And.intro (a:=I64 _) ?_ ?_|refine ⟨_,rfl,?_,rfl,?_⟩|fail
  ·unfold I64;dsimp only;omega
  ·unfold I64;dsimp only;omega
  ·have hkl:k=N[j].ins.length := by
    have h:=of_decide_eq_false (by assumption:decide ((k:Int)<(N[j].ins.length:Int))=false)
    omega
   subst hkl
   conv=>whnf
   refine ⟨(j+1,v),?_,⟨hj2,by show InsU N v (insB N (j+1));rw [hbs,hni];exact hv⟩,by show N.length-(j+1)<N.length-j;omega⟩
   show Wk _ _ _ ([(18,.int .i64 ((j+1:Nat):Int)),(5,.int .i64 ((insB N (j+1):Nat):Int))]++_) _
   rw [hbs,hni,Int.natCast_add]
   exact (by (refine qf_ [some 0,some 1,some 2,some 3] rfl rfl ?_ ?_<;>(repeat' first|exact True.intro|exact rfl|exact .inl rfl|exact .inr rfl|refine And.intro ?_ ?_|fail)))
  all_goals
   have hk2:k<N[j].ins.length:=by
    have h:=of_decide_eq_true (by assumption:decide ((k:Int)<(N[j].ins.length:Int))=true)
    omega
  ·exact hk2
  ·unfold I64;dsimp only;omega
  ·rfl
  ·unfold I64;dsimp only;omega
  have hat:=qbl_ hj2 (k:=k) (by omega)
  have hip:inP N j k=N[j].ins[k]:=by
   unfold inP
   rw [xb_ hj2,List.getD_eq_getElem?_getD,List.getElem?_eq_getElem hk2];rfl
  rw [hip] at hat
  conv=>whnf
  refine ⟨(k+1,mput v (keyP N[j].ins[k]) ((insB N j+k:Nat):Int)),?_,⟨hk2,qzu_ hg.nodup hv hat⟩,by show N[j].ins.length-(k+1)<N[j].ins.length-k;omega⟩
  exact (by (refine qf_ [some 0,some 1,some 2,some 3,some 4] rfl rfl ?_ ?_<;>(repeat' first|exact True.intro|exact rfl|exact .inl rfl|exact .inr rfl|refine And.intro ?_ ?_|fail)))
 conv=>whnf
 exact hK u hu
end Gv
namespace Gv
variable [Glob] [Laid]
theorem qu9_:qb_ Tryz.prog 35=true:=by kernel_rfl
def ql2_:Spec:=fun args K=>∃ (F:List FileS) (n:Bs),args=[.sl qq_ F,.str n]∧K (.sl qd_ (getN F n))
noncomputable def qpd_:List (Nat × Spec):=[]
noncomputable def qpc_:List (Nat × FnI):=[]
noncomputable def qi3_:List (Nat × qn_):=[]
theorem qy5_:EnvOK ⟨Tryz.prog,tys,qpd_,qpc_,qi3_,[]⟩:=qs_ qt_ tys0 .nil .nil .nil rfl
theorem qva_:Pure Tryz.prog 35 ql2_:=by
 refine qp_ qy5_ 6 (fi:={fn:=Tryz.f35,hooks:=[],draws:=[]}) ⟨Tryz.func35,by kernel_rfl,by kernel_rfl⟩ ?_
 rintro _ K ⟨F,n,rfl,hK⟩
 replace hK:∀ r,r=.sl qd_ (getN F n)→K r:=fun r h=>h ▸ hK
 repeat' first|(refine fun (hl:_≤MAXL)=>?_)|fail
 conv=>whnf
 refine qg_ [1,7,8] (σ:=Nat) (fun i=>[(9,.int .i64 i)]) (fun _=>[]) (fun i=>i≤F.length∧getN (F.drop i) n=getN F n) (fun i=>F.length-i) 0 ?_
 conv=>whnf
 refine ⟨(by (refine qa_ ?_;refine Sel4.mk rfl rfl ?_ ?_<;>(repeat' first|exact True.intro|exact rfl|exact .inl rfl|exact .inr rfl|refine And.intro ?_ ?_|fail))),⟨Nat.zero_le _,rfl⟩,fun i hi=>?_⟩
 obtain ⟨hi,hg⟩:=hi
 repeat' first|(refine fun (b:Bool) hb=>?_;cases b<;>first|exact absurd hb (by decide)|exact nfl hb|exact nfr hb|skip)|refine And.intro (a:=I64 _) ?_ ?_|refine ⟨_,rfl,?_,rfl,?_⟩|fail
 ·have hge:¬ (i:Int)<(F.length:Int):=of_decide_eq_false (by assumption)
  have e:F.drop i=[]:=List.drop_eq_nil_of_le (by omega)
  rw [e] at hg
  conv=>whnf
  refine ⟨UInt8,qd_,?_⟩
  refine hK _ ?_
  rw [←hg]
  rfl
 ·have h:=of_decide_eq_true (by assumption:decide ((i:Int)<(F.length:Int))=true)
  show i<F.length
  omega
 ·have hm:F.length≤MAXL:=by assumption
  unfold MAXL at hm
  have h:=of_decide_eq_true (by assumption:decide ((i:Int)<(F.length:Int))=true)
  unfold I64;omega
 all_goals
  have hlt:i<F.length:=by
   have h:=of_decide_eq_true (by assumption:decide ((i:Int)<(F.length:Int))=true)
   omega
  rw [List.drop_eq_getElem_cons hlt] at hg
  unfold getN at hg
  rw [List.find?_cons] at hg
 ·have hn:¬ F[i].name=n:=of_decide_eq_false (by assumption)
  rw [decide_eq_false hn] at hg
  conv=>whnf
  exact ⟨i+1,(by (refine qa_ ?_;refine Sel4.mk rfl rfl ?_ ?_<;>(repeat' first|exact True.intro|exact rfl|exact .inl rfl|exact .inr rfl|refine And.intro ?_ ?_|fail))),⟨hlt,hg⟩,by omega⟩
 ·have hn:F[i].name=n:=of_decide_eq_true (by assumption)
  rw [decide_eq_true hn] at hg
  conv=>whnf
  refine hK _ ?_
  show _=V.sl qd_ ((Option.map (·.b) (F.find? fun f=>decide (f.name=n))).getD [])
  rw [←hg]
  rfl
end Gv
namespace Gv
variable [Glob] [Laid]
theorem y8_:qb_ Tryz.prog 89=true:=by kernel_rfl
def y1_:Spec:=fun args K=>∃ (b:Bs),args=[.sl qd_ b]∧b.length≤1000000000∧K (.sl strV (qc_ b))
noncomputable def qmj_:List (Nat × Spec):=[(148,qek_)]
noncomputable def qmi_:List (Nat × FnI):=[]
noncomputable def qgp_:List (Nat × qn_):=[]
theorem qvq_:EnvOK ⟨Tryz.prog,tys,qmj_,qmi_,qgp_,[]⟩:=qs_ qt_ tys0 (.cons qf6_ qf7_ .nil) .nil .nil rfl
theorem y9_:Pure Tryz.prog 89 y1_:=by
 refine qp_ qvq_ 6 (fi:={fn:=Tryz.f89,hooks:=[],draws:=[]}) ⟨Tryz.func89,by kernel_rfl,by kernel_rfl⟩ ?_
 rintro _ K ⟨b,rfl,hz,hK⟩
 replace hK:∀ r,r=.sl strV (qc_ b)→K r:=fun r h=>h ▸ hK
 have hsl:=qq6_ b
 have hsn:0<(Lib.split b [10]).length:=List.length_pos_iff.2 (qel_ b [10])
 obtain ⟨L,hL⟩:∃ L,Lib.split b [10]=L:=⟨_,rfl⟩
 refine ⟨b,fun _=>rfl,rfl,?_⟩
 refine ⟨b,[10],rfl,⟨by omega,by decide⟩,?_⟩
 rw [hL] at hsl hsn ⊢
 repeat' first|(refine fun (hl:_≤MAXL)=>?_)|refine And.intro (a:=I64 _) ?_ ?_|fail
 ·(first|omega|(unfold I64;omega)|(simp only [List.length_append,List.length_map,List.length_cons,List.length_nil,Nat.mul_one,Int.ofNat_eq_natCast] at *;omega)|(dsimp only at *;omega)|(unfold I64;dsimp only at *;omega)|(unfold I64;grind)|grind)
 refine ⟨L.length-1,by omega,by omega,?_⟩
 repeat' first|(refine fun (b:Bool) hb=>?_;cases b<;>first|exact absurd hb (by decide)|exact nfl hb|exact nfr hb|skip)|(refine fun (hl:_≤MAXL)=>?_)|refine And.intro (a:=I64 _) ?_ ?_|refine ⟨(fun _=>rfl),?_⟩|refine ⟨rfl,?_⟩|fail
 ·have h:¬ L[L.length-1]=[]:=of_decide_eq_false (by assumption)
  conv=>whnf
  refine hK _ ?_
  rw [←hsl]
  unfold qyv_
  rw [if_neg (by rw [List.getLast?_eq_getElem?,List.getElem?_eq_getElem (by omega)];simpa using h)]
 ·(first|omega|(unfold I64;omega)|(simp only [List.length_append,List.length_map,List.length_cons,List.length_nil,Nat.mul_one,Int.ofNat_eq_natCast] at *;omega)|(dsimp only at *;omega)|(unfold I64;dsimp only at *;omega)|(unfold I64;grind)|grind)
 have h:L[L.length-1]=[]:=of_decide_eq_true (by assumption)
 refine ⟨L.length-1,by omega,by omega,?_⟩
 skip
 refine hK _ ?_
 rw [←hsl]
 unfold qyv_
 rw [if_pos (by rw [List.getLast?_eq_getElem?,List.getElem?_eq_getElem (by omega),h]),List.dropLast_eq_take]
end Gv
namespace Gv
variable [Glob] [Laid]
theorem q5i_:qb_ Tryz.prog 146=true:=by kernel_rfl
def qz0_:Spec:=fun args K=>∃ (l:List Bs) (sep:Bs),args=[.sl strV l,.str sep]∧(l.length≤140737488355328∧(Lib.join l sep).length≤140737488355328)∧K (.str (Lib.join l sep))
theorem q5j_:Pure Tryz.prog 146 qz0_:=by
 intro w m args us K hm hg hv hT
 obtain ⟨l,sep,rfl,⟨h1,h2⟩,hK⟩:=hT
 obtain ⟨a,b,rfl,ha,hb⟩:=qn7_ hv.1 hv.2
 obtain ⟨p,c,rfl,hlc,hc,hp⟩:=q3a_ ha hm
 obtain ⟨rfl,-⟩:=vf_ hb
 by_cases hl:l=[]
 ·subst hl
  refine (Tryz.strings_Join_none p c (ba sep) w).mono fun e w' ⟨he,hw⟩=>?_
  subst hw
  exact ⟨_,_,he,Bel.refl _ _,hK,.str (s:=[]) (Nat.zero_le _)⟩
 ·obtain ⟨bk,o,rfl,hbk,hx,hx2⟩:=hp hl
  have e1:(l.map ba).map (fun x=>x.data.toList)=l:=by
   rw [List.map_map]
   conv=>rhs;rw [←List.map_id l]
   rfl
  have e2:(l.map ba).length=l.length:=List.length_map ..
  have:=Tryz.strings_Join bk o c (l.map ba) (ba sep) w (fun j x hj=>by
   rw [List.getElem?_map] at hj
   obtain ⟨y,hy,rfl⟩:=Option.map_eq_some_iff.1 hj
   exact hx j y hy) hbk (by rw [e2];exact h1) (by rw [e2];exact hlc) (by rw [e1];exact h2)
  rw [e1,e2] at this
  refine this.mono fun e w' ⟨he,hw⟩=>?_
  exact ⟨_,_,he,Bel.of_below hw,hK,.str (by have:=h2;unfold MAXL;show (Lib.join l sep).length≤_;omega)⟩
end Gv
namespace Gv
variable [Glob] [Laid]
theorem v5_:qb_ Tryz.prog 87=true:=by kernel_rfl
def vl_:Spec:=fun args K=>∃ (l:List Bs),args=[.sl strV l]∧(put l).length≤1000000000∧K (.sl qd_ (put l))
noncomputable def qks_:List (Nat × Spec):=[(146,qz0_)]
noncomputable def qkr_:List (Nat × FnI):=[]
noncomputable def qgh_:List (Nat × qn_):=[]
theorem qtz_:EnvOK ⟨Tryz.prog,tys,qks_,qkr_,qgh_,[]⟩:=qs_ qt_ tys0 (.cons q5i_ q5j_ .nil) .nil .nil rfl
theorem v6_:Pure Tryz.prog 87 vl_:=by
 refine qp_ qtz_ 6 (fi:={fn:=Tryz.f87,hooks:=[],draws:=[]}) ⟨Tryz.func87,by kernel_rfl,by kernel_rfl⟩ ?_
 rintro _ K ⟨l,rfl,hz,hK⟩
 replace hK:∀ r,r=.sl qd_ (put l)→K r:=fun r h=>h ▸ hK
 have hj:=qsn_ l
 have hjl:(Lib.join l [10]).length≤(put l).length:=by
  rw [←hj]
  split
  ·simp
  ·exact Nat.le_refl _
 have hll:=qdg_ (l:=l) (n:=1000000000) hz
 refine ⟨l,[10],rfl,⟨by omega,by omega⟩,?_⟩
 repeat' first|(refine fun (b:Bool) hb=>?_;cases b<;>first|exact absurd hb (by decide)|exact nfl hb|exact nfr hb|skip)|(refine fun (hl:_≤MAXL)=>?_)|refine And.intro (a:=_≤140737488355328) ?_ ?_|refine Opt.a ?_|fail
 ·omega
 ·conv=>whnf
  refine hK _ ?_
  rw [←hj,if_neg (by have:=of_decide_eq_false (by assumption:decide ((0:Int)<(l.length:Int))=false);omega)]
 all_goals have hp:0<l.length:=by have:=of_decide_eq_true (by assumption:decide ((0:Int)<(l.length:Int))=true);omega
 rw [if_pos hp] at hj
 conv=>whnf
 refine ⟨by show (Lib.join l [10]).length+1≤MAXL;unfold MAXL;omega,?_⟩
 repeat' first|refine And.intro (a:=_≤140737488355328) ?_ ?_|refine Opt.a ?_|fail
 ·show (Lib.join l [10]++[10]).length≤140737488355328
  rw [hj]
  omega
 conv=>whnf
 refine hK _ ?_
 show V.sl qd_ (Lib.join l [10]++[10])=_
 rw [hj]
end Gv
namespace Gv
variable [Glob] [Laid]
theorem q3h_:qb_ Tryz.prog 94=true:=by kernel_rfl
def qtr_:Spec:=fun args K=>∃ b:Bs,args=[.sl qd_ b]∧b.length≤100000000∧K (.sl qd_ (qag_ b))
noncomputable def qxd_:List (Nat × Spec):=[(89,y1_),(87,vl_)]
noncomputable def qxc_:List (Nat × FnI):=[]
noncomputable def qns_:List (Nat × qn_):=[]
theorem q7s_:EnvOK ⟨Tryz.prog,tys,qxd_,qxc_,qns_,[]⟩:=qs_ qt_ tys0 (.cons y8_ y9_ (.cons v5_ v6_ .nil)) .nil .nil rfl
theorem q3i_:Pure Tryz.prog 94 qtr_:=by
 refine qp_ q7s_ 6 (fi:={fn:=Tryz.f94,hooks:=[],draws:=[]}) ⟨Tryz.func94,by kernel_rfl,by kernel_rfl⟩ ?_
 rintro _ K ⟨b,rfl,hb,hK⟩
 replace hK:∀ r,r=.sl qd_ (qag_ b)→K r:=fun r h=>h ▸ hK
 have h1:=qgf_ b
 skip
 refine ⟨b,rfl,by omega,?_⟩
 skip
 refine ⟨qc_ b,rfl,by show (qag_ b).length≤1000000000;omega,?_⟩
 skip
 exact hK _ rfl
end Gv
namespace Gv
variable [Glob] [Laid]
theorem zbj_ {a b c:Nat} (h:a*b≤c):(a:Int)*(b:Int)≤(c:Int):=by
 rw [←Int.natCast_mul]
 omega
theorem zbi_ (k m n:Nat):((k:Int)*(m:Int)) / (n:Int)=((k*m / n:Nat):Int):=by
 rw [←Int.natCast_mul,←Int.natCast_ediv]
theorem qq3_:qb_ Tryz.prog 158=true:=by kernel_rfl
def qh5_:Spec:=fun args K=>∃ (b:Bs) (n:Nat),args=[.sl qd_ b,.int .i64 n]∧(b.length≤500000000∧1≤n∧n≤1000)∧K (.sl blV (zj_ (qc_ b) n))
noncomputable def qnm_:List (Nat × Spec):=[(89,y1_)]
noncomputable def qnl_:List (Nat × FnI):=[]
noncomputable def qgw_:List (Nat × qn_):=[]
theorem qw2_:EnvOK ⟨Tryz.prog,tys,qnm_,qnl_,qgw_,[]⟩:=qs_ qt_ tys0 (.cons y8_ y9_ .nil) .nil .nil rfl
set_option maxHeartbeats 40000000 in
theorem qq4_:Pure Tryz.prog 158 qh5_:=by
 refine qp_ qw2_ 6 (fi:={fn:=Tryz.f158,hooks:=[11],draws:=[]}) ⟨Tryz.func158,by kernel_rfl,by kernel_rfl⟩ ?_
 rintro _ K ⟨b,n,rfl,⟨hb,hn1,hn2⟩,hK⟩
 replace hK:∀ r,r=.sl blV (zj_ (qc_ b) n)→K r:=fun r h=>h ▸ hK
 have hll:=xl_ b
 have hpl:=qgf_ b
 have hel:=vt_ b
 unfold qag_ at hpl
 refine ⟨b,rfl,by omega,?_⟩
 obtain ⟨L,hL⟩:∃ L,qc_ b=L:=⟨_,rfl⟩
 rw [hL] at hll hpl hel hK ⊢
 repeat' first|refine ⟨rfl,?_⟩|fail
 refine ⟨n,rfl,?_,?_⟩
 ·show n*24≤140737488355328
  omega
 skip
 conv=>whnf
 refine ql_ [6] (σ:=Nat × Option Bs) (fun _=>[]) (fun s=>[.row 1 (qnh_ L n s.1 s.2)]) (fun s=>sofI L n L.length s.1 s.2) ?_
 conv=>whnf
 refine ⟨?_,fun s hs=>?_⟩
 rotate_left
 ·skip
  refine ⟨Bs,blV,zj_ L n,qwz_ hs,?_⟩
  exact hK _ rfl
 repeat' first|(refine fun (hl:_≤MAXL)=>?_)|fail
 conv=>whnf
 refine qg_ [1,5,6,14,15] (σ:=Nat × Nat × Option Bs) (fun s=>[(16,.int .i64 s.1),(7,.int .i64 s.2.1)]) (fun s=>[.rowq 1 (x9_ L n s.2.1 s.2.2),q8w_ s.2.2]) (fun s=>sofI L n s.1 s.2.1 s.2.2) (fun s=>L.length-s.1) (0,0,none) ?_
 conv=>whnf
 refine ⟨?_,⟨Nat.zero_le _,hn1,by simp,by simp,by simp [put]⟩,fun s hs=>?_⟩
 ·refine qf_ [some 0,some 0] rfl rfl ⟨⟨rfl,q68_ hn1⟩,trivial,trivial⟩ ?_
  (repeat' first|exact True.intro|exact rfl|exact .inl rfl|exact .inr rfl|refine And.intro ?_ ?_|fail)
 obtain ⟨i,k,c⟩:=s
 dsimp only at hs
 have hsi:=hs.1
 have hsk:=hs.2.1
 repeat' first|(refine fun (b:Bool) hb=>?_;cases b<;>first|exact absurd hb (by decide)|exact nfl hb|exact nfr hb|skip)|refine ⟨_,rfl,?_,rfl,?_⟩|fail
 ·have h:=of_decide_eq_false (by assumption:decide ((i:Int)<(L.length:Int))=false)
  have e:i=L.length:=by omega
  subst e
  refine ⟨(k,c),?_,hs⟩
  cases c with
  | none =>
   refine qf_ [some 0] rfl rfl ⟨⟨rfl,rfl,qf4_ L n k none⟩,trivial⟩ ?_
   (repeat' first|exact True.intro|exact rfl|exact .inl rfl|exact .inr rfl|refine And.intro ?_ ?_|fail)
  | some b =>
   refine (wk_fz 1 rfl (LeL.refl _)).trans ((q80_ 0 1 k 1 rfl rfl (qat_ L n k (some b))).trans ?_)
   refine qf_ [some 0] rfl rfl ⟨⟨rfl,y3_ L n k (some b) (blV b),?_⟩,trivial⟩ ?_
   ·rw [show (x9_ L n k (some b)).set k (.sl qd_ b)=qnh_ L n k (some b) from y3_ L n k (some b) (blV b)]
    exact qf4_ L n k (some b)
   ·(repeat' first|exact True.intro|exact rfl|exact .inl rfl|exact .inr rfl|refine And.intro ?_ ?_|fail)
 ·have h:=of_decide_eq_true (by assumption:decide ((i:Int)<(L.length:Int))=true)
  show i<L.length
  omega
 have hlt:i<L.length:=by
  have h:=of_decide_eq_true (by assumption:decide ((i:Int)<(L.length:Int))=true)
  omega
 conv=>whnf
 refine qg_ [1,5,6,8,9,14,15,16] (σ:=Nat × Option Bs) (fun s=>[(7,.int .i64 s.1)]) (fun s=>[.rowq 1 (x9_ L n s.1 s.2),q8w_ s.2]) (fun s=>sofI L n i s.1 s.2) (fun s=>n-s.1) (k,c) ?_
 conv=>whnf
 refine ⟨?_,hs,fun s hs=>?_⟩
 ·cases c with
  | none =>
   refine qf_ [some 0,some 0] rfl rfl ⟨⟨rfl,q2w_ L n k⟩,trivial,trivial⟩ ?_
   (repeat' first|exact True.intro|exact rfl|exact .inl rfl|exact .inr rfl|refine And.intro ?_ ?_|fail)
  | some b =>
   refine qf_ [some 0,some 1] rfl rfl ⟨⟨rfl,q2x_ L n k b b rfl⟩,rfl,trivial⟩ ?_
   (repeat' first|exact True.intro|exact rfl|exact .inl rfl|exact .inr rfl|refine And.intro ?_ ?_|fail)
 clear hsi hsk
 obtain ⟨k,c⟩:=s
 dsimp only at hs
 have hsk:=hs.2.1
 have hml:(k+1)*L.length≤1000*1000000000:=Nat.mul_le_mul (show k+1≤1000 by omega) (show L.length≤1000000000 by omega)
 have hml2:((k:Int)+1)*(L.length:Int)≤((1000000000000:Nat):Int):=zbj_ hml
 have hml0:0≤((k:Int)+1)*L.length:=Int.mul_nonneg (by omega) (by omega)
 have hdv:=zbi_ (k+1) L.length n
 repeat' first|(refine fun (hl:_≤MAXL)=>?_)|refine And.intro (a:=I64 _) ?_ ?_|fail
 ·dsimp only
  unfold I64
  omega
 ·dsimp only
  unfold I64
  omega
 refine ⟨⟨hml0,by dsimp only;omega,by omega⟩,?_⟩
 repeat' first|(refine fun (b:Bool) hb=>?_;cases b<;>first|exact absurd hb (by decide)|exact nfl hb|exact nfr hb|skip)|refine And.intro (a:=I64 _) ?_ ?_|refine ⟨rfl,?_⟩|fail
 ·
  have h:¬ ((k:Int)+1)*(L.length:Int) / (n:Int)≤(i:Int):=of_decide_eq_false (by assumption)
  have hik:i<(k+1)*L.length / n:=by
   have e:((k:Int)+1)*(L.length:Int) / (n:Int)=(((k+1)*L.length / n:Nat):Int):=hdv
   omega
  have hnx:=q2u_ hs hlt hik
  have hLi:L[i].length≤b.length:=hel _ (List.getElem_mem hlt)
  have hlen:k<(x9_ L n k c).length:=by rw [qwy_ hsk];exact hsk
  refine ⟨k,rfl,hlen,?_⟩
  cases c with
  | none =>
   refine ⟨_,qat_ L n k none,?_⟩
   refine ⟨by show L[i].length+1≤MAXL;unfold MAXL;omega,?_⟩
   repeat' first|refine And.intro (a:=_≤140737488355328) ?_ ?_|refine ⟨rfl,?_⟩|fail
   ·show (List.map qd_ (L[i]++[10])).length*1≤140737488355328
    rw [List.length_map,List.length_append]
    simp only [List.length_cons,List.length_nil]
    omega
   refine ⟨k,rfl,hlen,?_⟩
   conv=>whnf
   refine ⟨hlen,?_⟩
   repeat' first|refine And.intro (a:=I64 _) ?_ ?_|fail
   ·dsimp only
    unfold I64
    omega
   refine ⟨(i+1,k,some (L[i]++[10])),?_,hnx,by dsimp only;omega⟩
   refine qf_ [some 0,some 2] rfl rfl ⟨⟨rfl,qtl_ L n k none (some (L[i]++[10])) (v:=.own 2) (v':=.own 1) rfl rfl rfl rfl⟩,rfl,trivial⟩ ?_
   (repeat' first|exact True.intro|exact rfl|exact .inl rfl|exact .inr rfl|refine And.intro ?_ ?_|fail)
  | some d =>
   have hd:d.length≤1000000001:=by
    have h5:=hs.2.2.2.2
    have:d=put ((L.take i).drop (k*L.length / n)):=h5
    rw [this]
    exact Nat.le_trans (qjz_ ((List.drop_sublist _ _).trans (List.take_sublist _ _))) (by omega)
   refine ⟨_,qat_ L n k (some d),?_⟩
   refine ⟨by show L[i].length+1≤MAXL;unfold MAXL;omega,?_⟩
   repeat' first|refine And.intro (a:=_≤140737488355328) ?_ ?_|refine ⟨rfl,?_⟩|fail
   ·show ((List.map qd_ d).length+(List.map qd_ (L[i]++[10])).length)*1≤140737488355328
    rw [List.length_map,List.length_map,List.length_append]
    simp only [List.length_cons,List.length_nil]
    omega
   refine ⟨k,rfl,hlen,?_⟩
   conv=>whnf
   refine ⟨hlen,?_⟩
   repeat' first|refine And.intro (a:=I64 _) ?_ ?_|fail
   ·dsimp only
    unfold I64
    omega
   refine ⟨(i+1,k,some (d++(L[i]++[10]))),?_,hnx,by dsimp only;omega⟩
   refine qf_ [some 0,some 2] rfl rfl ⟨⟨rfl,qtl_ L n k (some d) (some (d++(L[i]++[10]))) (v:=.own 2) (v':=.own 1) rfl rfl rfl rfl⟩,?_,trivial⟩ ?_
   ·show Row.row 1 _=Row.row 1 _
    rw [List.map_append]
   ·(repeat' first|exact True.intro|exact rfl|exact .inl rfl|exact .inr rfl|refine And.intro ?_ ?_|fail)
 ·dsimp only
  unfold I64
  omega
 ·have h:((k:Int)+1)*(L.length:Int) / (n:Int)≤(i:Int):=of_decide_eq_true (by assumption)
  have hik:(k+1)*L.length / n≤i:=by
   have e:((k:Int)+1)*(L.length:Int) / (n:Int)=(((k+1)*L.length / n:Nat):Int):=hdv
   omega
  obtain ⟨hn1,hn2⟩:=q2t_ hs hlt hik
  refine ⟨(k+1,none),?_,hn2,by dsimp only;omega⟩
  cases c with
  | none =>
   refine qf_ [some 0,some 0] rfl rfl ⟨⟨rfl,?_⟩,trivial,trivial⟩ ?_
   ·have e:=qf3_ (L:=L) hn2.2.1
    rw [←hn1] at e
    rw [←e]
    refine qnt_ (v1_ fun x hx w hw=>?_) (qav_ ⟨rfl,trivial⟩ (v1_ fun x hx w hw=>?_))
    ·obtain ⟨j,-,rfl⟩:=List.mem_map.1 hx
     simp [blV,V.cells] at hw
     subst hw;rfl
    ·rw [List.eq_of_mem_replicate hx] at hw
     simp [V.cells] at hw
     subst hw;rfl
   ·(repeat' first|exact True.intro|exact rfl|exact .inl rfl|exact .inr rfl|refine And.intro ?_ ?_|fail)
  | some d =>
   refine (wk_fz 1 rfl (LeL.refl _)).trans ((q80_ 0 1 k 1 rfl rfl (qat_ L n k (some d))).trans ?_)
   refine qf_ [some 0,some 0] rfl rfl ⟨⟨rfl,?_⟩,trivial,trivial⟩ ?_
   ·have e:=qf3_ (L:=L) hn2.2.1
    rw [←hn1] at e
    rw [←e]
    show qcq_ _ ((x9_ L n k (some d)).set k (blV d)) _
    rw [y3_]
    refine v1_ fun x hx w hw=>?_
    simp only [List.mem_append,List.mem_map,List.mem_cons] at hx
    rcases hx with ⟨j,-,rfl⟩|rfl|hx
    ·simp [blV,V.cells] at hw
     subst hw;rfl
    ·simp [blV,V.cells] at hw
     subst hw;rfl
    ·rw [List.eq_of_mem_replicate hx] at hw
     simp [V.cells] at hw
     subst hw;rfl
   ·(repeat' first|exact True.intro|exact rfl|exact .inl rfl|exact .inr rfl|refine And.intro ?_ ?_|fail)
end Gv
namespace Gv
variable [Glob] [Laid] [Nums]
theorem qjl_:qb_ Tryz.prog 88=true:=by kernel_rfl
def qjk_:Spec:=fun args K=>∃ (c:Cmd) (l:List Bs),args=[cmdV c,.sl strV l]∧(qz_ c=0∧l.length≤900000000∧∀ s∈l,s.length≤900000000)∧K (.sl strV (zq_ c l))
noncomputable def q0l_:List (Nat × Spec):=[(147,qa8_),(148,qek_),(150,qhk_)]
noncomputable def q0k_:List (Nat × FnI):=[(149,{fn:=Tryz.f149,hooks:=[],draws:=[]})]
noncomputable def qp2_:List (Nat × qn_):=[(152,qq2_)]
theorem zab_:EnvOK ⟨Tryz.prog,tys,q0l_,q0k_,qp2_,[]⟩:=qs_ qt_ tys0 (.cons qds_ qdt_ (.cons qf6_ qf7_ (.cons qe8_ qe9_ .nil))) (.cons (by kernel_rfl) ⟨Tryz.func149,by kernel_rfl,by kernel_rfl⟩ .nil) (.cons qh4_ .nil) rfl
set_option maxHeartbeats 40000000 in
theorem qjm_:Pure Tryz.prog 88 qjk_:=by
 refine qp_ zab_ 6 (fi:={fn:=Tryz.f88,hooks:=[40],draws:=[(16,[0,0,3,7,0,16,48,127])]}) ⟨Tryz.func88,by kernel_rfl,by kernel_rfl⟩ ?_
 rintro _ K ⟨c,l,rfl,⟨hc,hlc,hs⟩,hK⟩
 replace hK:∀ r,r=.sl strV (zq_ c l)→K r:=fun r h=>h ▸ hK
 have hkind:1≤c.kind∧c.kind≤10:=by
  unfold qz_ at hc
  grind
 repeat' first|(refine fun (hl:_≤MAXL)=>?_)|fail
 conv=>whnf
 refine qg_ [1,2,14,15] (σ:=Nat × List Bs) (fun s=>[(16,.int .i64 s.1),(5,.own 1)]) (fun s=>[.box (cmdV c).cells,.row 1 (s.2.map strV)]) (fun s=>s.2=accM c l s.1∧s.1≤l.length) (fun s=>l.length-s.1) (0,[]) ?_
 conv=>whnf
 refine ⟨(by (refine qa_ ?_;refine Sel4.mk rfl rfl ?_ ?_<;>(repeat' first|exact True.intro|exact rfl|exact .inl rfl|exact .inr rfl|refine And.intro ?_ ?_|fail))),⟨(zb9_ c l).symm,Nat.zero_le _⟩,fun s hs=>?_⟩
 obtain ⟨i,out⟩:=s
 obtain ⟨ho,hi⟩:=hs
 dsimp only at ho hi
 have hol:out.length≤900000000:=by rw [ho];exact Nat.le_trans (q30_ c l i hi) hlc
 repeat' first|refine ⟨_,_,_,LeL.refl _,?_⟩|(refine fun (b:Bool) hb=>?_;cases b<;>first|exact absurd hb (by decide)|exact nfl hb|exact nfr hb|skip)|(refine fun (hl:_≤MAXL)=>?_)|refine ⟨_,rfl,?_,rfl,?_⟩|fail
 ·
  have h:¬ (i:Int)<(l.length:Int):=of_decide_eq_false (by assumption)
  have e:i=l.length:=by omega
  have h6:c.kind≠6:=of_decide_eq_false (by assumption)
  have h8:c.kind≠8:=of_decide_eq_false (by assumption)
  rw [e,q3z_ h6 h8] at ho
  conv=>whnf
  exact hK _ (by rw [←ho])
 ·have h8:c.kind=8:=of_decide_eq_true (by assumption)
  refine ⟨l.length,rfl,⟨by omega,by omega⟩,?_⟩
  skip
  refine ⟨Bs,strV,[Lib.itoa l.length],LeL.refl _,?_⟩
  refine hK _ ?_
  unfold zq_
  rw [if_neg (by omega),if_neg (by omega),if_pos h8]
 ·have h6:c.kind=6:=of_decide_eq_true (by assumption)
  skip
  have h:¬ (i:Int)<(l.length:Int):=of_decide_eq_false (by assumption)
  have e:i=l.length:=by omega
  have ho6:out=l:=by rw [ho,e];unfold accM;rw [if_pos h6,List.take_length]
  refine .inl ⟨out,rfl,rfl,by omega,?_⟩
  repeat' first|refine ⟨_,_,_,LeL.refl _,?_⟩|(refine fun (b:Bool) hb=>?_;cases b<;>first|exact absurd hb (by decide)|exact nfl hb|exact nfr hb|skip)|(refine fun (hl:_≤MAXL)=>?_)|fail
  ·refine hK _ ?_
   unfold zq_
   rw [if_pos h6,ho6]
  ·have h8:c.kind=8:=of_decide_eq_true (by assumption)
   omega
 ·have h:=of_decide_eq_true (by assumption:decide ((i:Int)<(l.length:Int))=true)
  show i<l.length
  omega
 have hlt:i<l.length:=by
  have h:=of_decide_eq_true (by assumption:decide ((i:Int)<(l.length:Int))=true)
  omega
 have hsi:=hs _ (List.getElem_mem hlt)
 conv=>whnf
 refine ql_ [1,2,5,14,15,16] (σ:=Bs × Bool) (fun s=>[(7,.str s.1),(8,.bool s.2)]) (fun _=>[.box (cmdV c).cells,.row 1 (out.map strV)]) (fun s=>accM c l (i+1)=out++(if s.2=true then [s.1] else [])) ?_
 conv=>whnf
 refine ⟨?_,fun s hst=>?_⟩
 ·have hk10:c.kind=1∨c.kind=2∨c.kind=3∨c.kind=4∨c.kind=5∨c.kind=6∨c.kind=7∨c.kind=8∨c.kind=9∨c.kind=10:=by omega
  obtain ⟨ck,cw,cn⟩:=c
  dsimp only at hk10
  rcases hk10 with rfl|rfl|rfl|rfl|rfl|rfl|rfl|rfl|rfl|rfl
  ·repeat' first|(refine fun (b:Bool) hb=>?_;cases b<;>first|exact absurd hb (by decide)|exact nfl hb|exact nfr hb|skip)|fail
   refine ⟨l[i],cw,rfl,by omega,?_⟩
   skip
   refine ⟨(l[i],Lib.contains l[i] cw),(by (refine qa_ ?_;refine Sel4.mk rfl rfl ?_ ?_<;>(repeat' first|exact True.intro|exact rfl|exact .inl rfl|exact .inr rfl|refine And.intro ?_ ?_|fail))),?_⟩
   rw [vk_ hlt (by show (1:Int)<6;decide),←ho]
   cases h:Lib.contains l[i] cw<;>simp [oneC,h]
  ·repeat' first|(refine fun (b:Bool) hb=>?_;cases b<;>first|exact absurd hb (by decide)|exact nfl hb|exact nfr hb|skip)|fail
   refine ⟨l[i],cw,rfl,by omega,?_⟩
   skip
   refine ⟨(l[i],!Lib.contains l[i] cw),(by (refine qa_ ?_;refine Sel4.mk rfl rfl ?_ ?_<;>(repeat' first|exact True.intro|exact rfl|exact .inl rfl|exact .inr rfl|refine And.intro ?_ ?_|fail))),?_⟩
   rw [vk_ hlt (by show (2:Int)<6;decide),←ho]
   cases h:Lib.contains l[i] cw<;>simp [oneC,h]
  ·obtain ⟨x,y,hw⟩:=zbz_ hc rfl
   dsimp only at hw
   subst hw
   repeat' first|(refine fun (b:Bool) hb=>?_;cases b<;>first|exact absurd hb (by decide)|exact nfl hb|exact nfr hb|skip)|(refine fun (hl:_≤MAXL)=>?_)|refine And.intro (a:=_≤140737488355328) ?_ ?_|refine Opt.b ?_|fail
   ·exact Nat.le_trans hsi (by decide)
   skip
   conv=>whnf
   refine qg_ [1,2,5,8,9,14,15,16,41] (σ:=Nat × Bs) (fun s=>[(42,.int .i64 s.1),(9,.own 2)]) (fun s=>[.box (cmdV ⟨3,[x,y],cn⟩).cells,.row 1 (out.map strV),.row 1 (s.2.map qd_)]) (fun s=>s.2=(l[i].take s.1).map (fun z=>if z=x then y else z)++l[i].drop s.1∧s.1≤l[i].length) (fun s=>l[i].length-s.1) (0,l[i]) ?_
   conv=>whnf
   refine ⟨(by (refine qa_ ?_;refine Sel4.mk rfl rfl ?_ ?_<;>(repeat' first|exact True.intro|exact rfl|exact .inl rfl|exact .inr rfl|refine And.intro ?_ ?_|fail))),⟨by simp,Nat.zero_le _⟩,fun s hs=>?_⟩
   obtain ⟨k,d⟩:=s
   obtain ⟨hd,hk⟩:=hs
   dsimp only at hd hk
   have hdl:d.length=l[i].length:=by rw [hd];simp;omega
   repeat' first|(refine fun (b:Bool) hb=>?_;cases b<;>first|exact absurd hb (by decide)|exact nfl hb|exact nfr hb|skip)|refine ⟨_,⟨rfl,rfl⟩,?_⟩|fail
   ·have hge:¬ (k:Int)<((l[i].map qd_).length:Int):=of_decide_eq_false (by assumption)
    rw [List.length_map] at hge
    have ek:k=l[i].length:=by omega
    refine ⟨d,rfl,rfl,?_⟩
    skip
    refine ⟨(d,true),(by (refine qa_ ?_;refine Sel4.mk rfl rfl ?_ ?_<;>(repeat' first|exact True.intro|exact rfl|exact .inl rfl|exact .inr rfl|refine And.intro ?_ ?_|fail))),?_⟩
    rw [vk_ hlt (by show (3:Int)<6;decide),←ho,hd,ek]
    rw [one_3]
    simp
   have hkl:k<l[i].length:=by
    have h:=of_decide_eq_true (by assumption:decide ((k:Int)<((l[i].map qd_).length:Int))=true)
    rw [List.length_map] at h
    omega
   have hkd:k<d.length:=by omega
   have gk:(List.map qd_ d)[k]?=some (qd_ d[k]):=by rw [List.getElem?_map,List.getElem?_eq_getElem hkd];rfl
   have edk:d[k]=l[i][k]:=mp_eq hkl hd hkd
   have hnx:=zc3_ (fun z=>if z=x then y else z) hkl
   rw [←hd,←edk] at hnx
   conv=>whnf
   refine ⟨_,⟨rfl,k,rfl,by simpa using hkd,⟨rfl,rfl⟩⟩,?_⟩
   repeat' first|exact True.intro|refine And.intro (a:=qj_ _ _ _ _ _ _ _ _) ?_ ?_|fail
   conv=>whnf
   refine ⟨_,⟨_,gk,⟨rfl,rfl⟩⟩,?_⟩
   repeat' first|exact True.intro|refine ⟨_,⟨rfl,rfl⟩,?_⟩|refine And.intro (a:=qj_ _ _ _ _ _ _ _ _) ?_ ?_|fail
   conv=>whnf
   refine ⟨_,⟨0,rfl,(by show 0<2;decide),rfl,rfl⟩,?_⟩
   repeat' first|exact True.intro|(refine fun (b:Bool) hb=>?_;cases b<;>first|exact absurd hb (by decide)|exact nfl hb|exact nfr hb|skip)|refine And.intro (a:=I64 _) ?_ ?_|refine ⟨_,⟨rfl,rfl⟩,?_⟩|refine And.intro (a:=qj_ _ _ _ _ _ _ _ _) ?_ ?_|refine ⟨_,rfl,?_,rfl,?_⟩|fail
   ·unfold I64
    dsimp only
    omega
   ·have hne:¬ ((d[k].toNat:Int)=(x.toNat:Int)):=of_decide_eq_false (by assumption)
    have hne2:¬ d[k]=x:=fun e=>hne (by rw [e])
    refine ⟨(k+1,d),(by (refine qa_ ?_;refine Sel4.mk rfl rfl ?_ ?_<;>(repeat' first|exact True.intro|exact rfl|exact .inl rfl|exact .inr rfl|refine And.intro ?_ ?_|fail))),⟨?_,hkl⟩,?_⟩
    ·show d=_
     rw [hnx,if_neg hne2,List.set_getElem_self]
    ·show l[i].length-(k+1)<l[i].length-k
     omega
   ·show 2≤2
    decide
   have heq:((d[k].toNat:Int)=(x.toNat:Int)):=of_decide_eq_true (by assumption)
   have heq2:d[k]=x:=UInt8.toNat_inj.1 (by omega)
   rw [if_pos heq2] at hnx
   refine ⟨k,rfl,by simpa using hkd,?_⟩
   conv=>whnf
   refine ⟨by simpa using hkd,?_⟩
   repeat' first|refine And.intro (a:=I64 _) ?_ ?_|fail
   ·unfold I64
    dsimp only
    omega
   refine ⟨(k+1,d.set k y),?_,⟨?_,hkl⟩,?_⟩
   rotate_left
   ·show d.set k y=_
    rw [hnx]
   ·show l[i].length-(k+1)<l[i].length-k
    omega
   (refine qa_ ?_;refine Sel4.mk rfl rfl ?_ ?_<;>(repeat' first|exact True.intro|exact rfl|exact .inl rfl|exact .inr rfl|refine And.intro ?_ ?_|fail))
   show Row.row 1 _=Row.row 1 _
   simp [List.map_set]
   rfl
  ·have hn1:1≤cn∧cn≤1000 := by
    unfold qz_ useN at hc
    grind
   have hsn:0<(Lib.split l[i] [32]).length:=List.length_pos_iff.2 (qel_ l[i] [32])
   repeat' first|(refine fun (b:Bool) hb=>?_;cases b<;>first|exact absurd hb (by decide)|exact nfl hb|exact nfr hb|skip)|fail
   refine ⟨l[i],[32],rfl,⟨by omega,by decide⟩,?_⟩
   repeat' first|(refine fun (b:Bool) hb=>?_;cases b<;>first|exact absurd hb (by decide)|exact nfl hb|exact nfr hb|skip)|(refine fun (hl:_≤MAXL)=>?_)|refine And.intro (a:=I64 _) ?_ ?_|fail
   ·have hle:¬ cn≤((Lib.split l[i] [32]).length:Int):=of_decide_eq_false (by assumption)
    refine ⟨([],true),(by (refine qa_ ?_;refine Sel4.mk rfl rfl ?_ ?_<;>(repeat' first|exact True.intro|exact rfl|exact .inl rfl|exact .inr rfl|refine And.intro ?_ ?_|fail))),?_⟩
    rw [vk_ hlt (by show (4:Int)<6;decide),←ho]
    have h2:((Lib.split l[i] [32]).length:Int)<cn:=by omega
    simp [oneC,h2]
   ·unfold I64
    dsimp only
    omega
   ·have hle:cn≤((Lib.split l[i] [32]).length:Int):=of_decide_eq_true (by assumption)
    have hj:(cn-1).toNat<(Lib.split l[i] [32]).length:=by omega
    refine ⟨(cn-1).toNat,by show cn-1=_;omega,hj,rfl,?_⟩
    skip
    refine ⟨((Lib.split l[i] [32])[(cn-1).toNat],true),(by (refine qa_ ?_;refine Sel4.mk rfl rfl ?_ ?_<;>(repeat' first|exact True.intro|exact rfl|exact .inl rfl|exact .inr rfl|refine And.intro ?_ ?_|fail))),?_⟩
    rw [vk_ hlt (by show (4:Int)<6;decide),←ho]
    have h2:¬ ((Lib.split l[i] [32]).length:Int)<cn:=by omega
    have e:(Lib.split l[i] [32]).getD (cn-1).toNat []=(Lib.split l[i] [32])[(cn-1).toNat]:=by rw [List.getD_eq_getElem?_getD,List.getElem?_eq_getElem hj];rfl
    unfold oneC
    simp only [show ¬ (4:Int)=1 by decide,show ¬ (4:Int)=2 by decide,show ¬ (4:Int)=3 by decide,if_false,if_true,if_neg h2,e]
  ·repeat' first|(refine fun (b:Bool) hb=>?_;cases b<;>first|exact absurd hb (by decide)|exact nfl hb|exact nfr hb|skip)|(refine fun (hl:_≤MAXL)=>?_)|refine And.intro (a:=I64 _) ?_ ?_|fail
   ·unfold I64
    dsimp only
    omega
   conv=>whnf
   refine qg_ [1,2,5,7,8,14,15,16] (σ:=Int × Bs) (fun s=>[(13,.int .i64 s.1),(12,.str s.2)]) (fun _=>[.box (cmdV ⟨5,cw,cn⟩).cells,.row 1 (out.map strV)]) (fun s=>s.2=(l[i].drop (s.1+1).toNat).reverse∧-1≤s.1∧s.1<(l[i].length:Int)) (fun s=>(s.1+1).toNat) ((l[i].length:Int)-1,[]) ?_
   conv=>whnf
   refine ⟨(by (refine qa_ ?_;refine Sel4.mk rfl rfl ?_ ?_<;>(repeat' first|exact True.intro|exact rfl|exact .inl rfl|exact .inr rfl|refine And.intro ?_ ?_|fail))),⟨by simp,by dsimp only;omega,by dsimp only;omega⟩,fun s hs=>?_⟩
   obtain ⟨k,t⟩:=s
   obtain ⟨ht,hk1,hk2⟩:=hs
   dsimp only at ht hk1 hk2
   repeat' first|(refine fun (b:Bool) hb=>?_;cases b<;>first|exact absurd hb (by decide)|exact nfl hb|exact nfr hb|skip)|refine And.intro (a:=I64 _) ?_ ?_|fail
   ·have hge:¬ (0:Int)≤k:=of_decide_eq_false (by assumption)
    refine ⟨(t,true),(by (refine qa_ ?_;refine Sel4.mk rfl rfl ?_ ?_<;>(repeat' first|exact True.intro|exact rfl|exact .inl rfl|exact .inr rfl|refine And.intro ?_ ?_|fail))),?_⟩
    rw [vk_ hlt (by show (5:Int)<6;decide),←ho,ht,show (k+1).toNat=0 by omega,List.drop_zero]
    rw [one_5]
    rfl
   ·unfold I64
    dsimp only
    omega
   have hge:(0:Int)≤k:=of_decide_eq_true (by assumption)
   obtain ⟨j,rfl⟩:∃ j:Nat,k=(j:Int):=⟨k.toNat,by omega⟩
   have hj:j<l[i].length:=by omega
   refine ⟨j,j+1,rfl,rfl,by omega,hj,?_⟩
   have hsl:=q03_ hj
   have hnx:=q3e_ hj ht
   have htl:t.length≤l[i].length:=by rw [ht];simp
   rw [hsl]
   skip
   refine ⟨by show t.length+1≤MAXL;unfold MAXL;omega,?_⟩
   repeat' first|refine And.intro (a:=I64 _) ?_ ?_|fail
   ·unfold I64
    dsimp only
    omega
   refine ⟨((j:Int)-1,t++[l[i][j]]),(by (refine qa_ ?_;refine Sel4.mk rfl rfl ?_ ?_<;>(repeat' first|exact True.intro|exact rfl|exact .inl rfl|exact .inr rfl|refine And.intro ?_ ?_|fail))),⟨?_,by dsimp only;omega,by dsimp only;omega⟩,by dsimp only;omega⟩
   show t++[l[i][j]]=(l[i].drop ((j:Int)-1+1).toNat).reverse
   rw [show ((j:Int)-1+1).toNat=j by omega]
   exact hnx
  ·repeat' first|(refine fun (b:Bool) hb=>?_;cases b<;>first|exact absurd hb (by decide)|exact nfl hb|exact nfr hb|skip)|fail
   refine ⟨(l[i],true),(by (refine qa_ ?_;refine Sel4.mk rfl rfl ?_ ?_<;>(repeat' first|exact True.intro|exact rfl|exact .inl rfl|exact .inr rfl|refine And.intro ?_ ?_|fail))),?_⟩
   rw [zca_ hlt rfl,←ho]
   simp
  ·repeat' first|(refine fun (b:Bool) hb=>?_;cases b<;>first|exact absurd hb (by decide)|exact nfl hb|exact nfr hb|skip)|refine And.intro (a:=I64 _) ?_ ?_|fail
   ·unfold I64
    dsimp only
    omega
   ·have h0:¬ (i:Int)=0:=of_decide_eq_false (by assumption)
    refine ⟨i-1,by show (i:Int)-1=_;omega,by omega,rfl,?_⟩
    skip
    refine ⟨(l[i],!decide (l[i-1]=l[i])),(by (refine qa_ ?_;refine Sel4.mk rfl rfl ?_ ?_<;>(repeat' first|exact True.intro|exact rfl|exact .inl rfl|exact .inr rfl|refine And.intro ?_ ?_|fail))),?_⟩
    rw [q73_ hlt rfl,←ho]
    have e:l.getD (i-1) []=l[i-1]:=by rw [List.getD_eq_getElem?_getD,List.getElem?_eq_getElem (by omega)];rfl
    rw [e]
    by_cases hq:l[i-1]=l[i]
    ·rw [if_neg (by rintro (h|h);exact h0 (by omega);exact h hq)]
     simp [hq]
    ·rw [if_pos (.inr hq)]
     simp [hq]
   ·have h0:(i:Int)=0:=of_decide_eq_true (by assumption)
    skip
    refine ⟨(l[i],true),(by (refine qa_ ?_;refine Sel4.mk rfl rfl ?_ ?_<;>(repeat' first|exact True.intro|exact rfl|exact .inl rfl|exact .inr rfl|refine And.intro ?_ ?_|fail))),?_⟩
    rw [q73_ hlt rfl,←ho,if_pos (.inl (by omega))]
    simp
  ·repeat' first|(refine fun (b:Bool) hb=>?_;cases b<;>first|exact absurd hb (by decide)|exact nfl hb|exact nfr hb|skip)|fail
   refine ⟨(l[i],false),(by (refine qa_ ?_;refine Sel4.mk rfl rfl ?_ ?_<;>(repeat' first|exact True.intro|exact rfl|exact .inl rfl|exact .inr rfl|refine And.intro ?_ ?_|fail))),?_⟩
   rw [q74_ rfl,ho,q74_ rfl]
   simp
  ·repeat' first|(refine fun (b:Bool) hb=>?_;cases b<;>first|exact absurd hb (by decide)|exact nfl hb|exact nfr hb|skip)|fail
   refine ⟨(l[i],decide ((i:Int)<cn)),(by (refine qa_ ?_;refine Sel4.mk rfl rfl ?_ ?_<;>(repeat' first|exact True.intro|exact rfl|exact .inl rfl|exact .inr rfl|refine And.intro ?_ ?_|fail))),?_⟩
   rw [zcb_ hlt rfl,←ho]
   simp
  ·have hn0:0≤cn := by
    unfold qz_ useN at hc
    grind
   have hn1:cn≤1000:=by
    unfold qz_ useN at hc
    grind
   repeat' first|(refine fun (b:Bool) hb=>?_;cases b<;>first|exact absurd hb (by decide)|exact nfl hb|exact nfr hb|skip)|(refine fun (hl:_≤MAXL)=>?_)|refine And.intro (a:=I64 _) ?_ ?_|fail
   ·unfold I64
    dsimp only
    omega
   refine ⟨(l[i],decide ((l.length:Int)-cn≤(i:Int))),(by (refine qa_ ?_;refine Sel4.mk rfl rfl ?_ ?_<;>(repeat' first|exact True.intro|exact rfl|exact .inl rfl|exact .inr rfl|refine And.intro ?_ ?_|fail))),?_⟩
   rw [q83_ hlt rfl hn0,←ho]
   simp
 obtain ⟨s,kp⟩:=s
 dsimp only at hst
 cases kp
 ·repeat' first|(refine fun (b:Bool) hb=>?_;cases b<;>first|exact absurd hb (by decide)|exact nfl hb|exact nfr hb|skip)|refine And.intro (a:=I64 _) ?_ ?_|fail
  ·unfold I64
   dsimp only
   omega
  refine ⟨(i+1,out),(by (refine qa_ ?_;refine Sel4.mk rfl rfl ?_ ?_<;>(repeat' first|exact True.intro|exact rfl|exact .inl rfl|exact .inr rfl|refine And.intro ?_ ?_|fail))),⟨?_,hlt⟩,?_⟩
  ·show out=accM c l (i+1)
   rw [hst]
   simp
  ·show l.length-(i+1)<l.length-i
   omega
 ·repeat' first|(refine fun (b:Bool) hb=>?_;cases b<;>first|exact absurd hb (by decide)|exact nfl hb|exact nfr hb|skip)|refine And.intro (a:=I64 _) ?_ ?_|refine And.intro (a:=_≤140737488355328) ?_ ?_|refine ⟨rfl,?_⟩|fail
  ·show ((out.map strV).length+1)*16≤140737488355328
   rw [List.length_map]
   omega
  ·unfold I64
   dsimp only
   omega
  refine ⟨(i+1,out++[s]),?_,⟨?_,hlt⟩,?_⟩
  rotate_left
  ·show out++[s]=accM c l (i+1)
   rw [hst]
   simp
  ·show l.length-(i+1)<l.length-i
   omega
  (refine qa_ ?_;refine Sel4.mk rfl rfl ?_ ?_<;>(repeat' first|exact True.intro|exact rfl|exact .inl rfl|exact .inr rfl|refine And.intro ?_ ?_|fail))
  show Row.row 1 _=Row.row 1 _
  simp
  rfl
end Gv
namespace Gv
variable [Glob] [Laid] [Errs]
theorem qwb_:qb_ Tryz.prog 210=true:=by kernel_rfl
def qmy_:Spec:=fun args K=>∃ (s:Bs),args=[.str s,.int .i64 10,.int .i64 64]∧s.length≤140737488355328∧(∀ k,Lib.atoiAll s=.ok k→K (.tup [.int .i64 k,.raw .nilIface]))∧∀ n T b,(∀ k,Lib.atoiAll s≠.ok k)→K (.tup [.int .i64 n,.raw (.iface T (.pointer (some ⟨b,0,none⟩)))])
theorem qwc_:Pure Tryz.prog 210 qmy_:=by
 intro w m args us K hm hg hv hT
 obtain ⟨s,rfl,h1,hok,herr⟩:=hT
 obtain ⟨a,b,c,rfl,ha,hb,hc⟩:=zcd_ hv.1 hv.2
 cases hb;cases hc
 obtain ⟨rfl,-⟩:=vf_ ha
 have hgw:Sub Glob.mem w:=fun b o e=>hm b o (hg b o e)
 have two:∀ {m:Mem} {n:Int} {u:Value},VR m noLoc (.tup [.int .i64 n,.raw u]) (.tuple #[.int .i64 n,u]):=fun {m n u}=>by
  have h:VRL m noLoc [.int .i64 n,.raw u] [.int .i64 n,u]:=VRL.cons .int (VRL.cons .raw VRL.nil)
  exact .tup h.len h.el
 have hp:Lib.parseIntB 64 s=Lib.atoiAll s:=Lib.parseIntB_64 s
 rw [←hp] at hok herr
 cases h:Lib.parseIntB 64 s with
 | ok v =>
  refine (Tryz.strconv_ParseInt_10_at64_ok (ba s) (by rw [xu_];omega) v h w).mono fun e w' ⟨he,hw⟩=>?_
  refine ⟨_,_,he,Bel.of_below ?_,hok v h,two⟩
  rcases hw with rfl|⟨t,rfl⟩
  ·exact RowKit.Below.refl _ _
  ·exact Lib.bytesWorld_below _ _ _
 | range =>
  obtain ⟨tp,pv,e1⟩:=Errs.rng w hgw
  refine (Tryz.strconv_ParseInt_10_at64_range_var (ba s) (by rw [xu_];omega) h tp pv w e1).mono fun e w' ⟨N,he,_,_,hw⟩=>?_
  exact ⟨_,_,he,Bel.of_below hw,herr _ _ _ (fun k=>by rw [h];intro x;cases x),two⟩
 | _ =>
  obtain ⟨tp,pv,e1⟩:=Errs.syn w hgw
  refine (Tryz.strconv_ParseInt_10_at64_syntax_var (ba s) (by rw [xu_];omega) h tp pv w e1).mono fun e w' ⟨N,he,_,_,hw⟩=>?_
  exact ⟨_,_,he,Bel.of_below hw,herr _ _ _ (fun k=>by rw [h];intro x;cases x),two⟩
end Gv
namespace Gv
variable [Glob] [Laid] [Nums]
theorem q9u_:qb_ Tryz.prog 211=true:=by kernel_rfl
def q79_:Spec:=fun args K=>∃ (n:Int),args=[.int .i64 n,.int .i64 10]∧I64 n∧K (.str (Lib.itoa n))
theorem q9v_:Pure Tryz.prog 211 q79_:=by
 intro w m args us K hm hg hv hT
 obtain ⟨n,rfl,h1,hK⟩:=hT
 obtain ⟨a,b,rfl,ha,hb⟩:=qn7_ hv.1 hv.2
 cases ha
 cases hb
 refine (Tryz.strconv_FormatInt_10 n h1.1 h1.2 w (Nums.pow10 w (fun b o e=>hm b o (hg b o e)))).mono fun e w' ⟨he,k,os,hw⟩=>?_
 subst hw
 have:=qeb_ n h1
 exact ⟨_,_,he,qru_ w k os,hK,.str (by unfold MAXL;omega)⟩
end Gv
