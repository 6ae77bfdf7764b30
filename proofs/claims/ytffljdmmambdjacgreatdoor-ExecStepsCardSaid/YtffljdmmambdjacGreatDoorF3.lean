/- What functions of the program come to, part 3: in every world; the conditions stand in each theorem. -/
import Derived.Test.YtffljdmmambdjacGreatDoorF2
set_option linter.unusedVariables false
set_option linter.unusedSectionVars false
set_option linter.unusedSimpArgs false
set_option maxHeartbeats 16000000
open Go Go.Proofs Gw Gp
namespace Gv
variable [Glob] [Laid]
theorem qmm_ (a b:Bs):(Op.bytesLess a b || decide (a=b))=!Op.bytesLess b a:=by
 rw [yp_,yp_]
 by_cases h1:b<a
 ·have h2:¬ a<b:=fun h=>List.lt_irrefl _ (List.lt_trans h h1)
  have h3:¬ a=b:=fun e=>by subst e;exact List.lt_irrefl _ h1
  simp [h1,h2,h3]
 ·by_cases e:a=b
  ·subst e
   simp [h1]
  ·have h2:a<b:=Decidable.byContradiction fun h=>e (List.le_antisymm h1 h)
   simp [h1,h2]
theorem qcm_:callable Tryz.prog 30=true:=by kernel_rfl
def cfilesR_S:Spec:=fun args K=>∃ l:List FileS,args=[.sl fileV l]∧K (.int .i64 (checkFiles l))
noncomputable def cfilesR_lib:List (Nat × Spec):=[(82,isWordR_S)]
noncomputable def cfilesR_fns:List (Nat × FnI):=[]
noncomputable def cfilesR_prims:List (Nat × PSpec):=[]
theorem qlq_:EnvOK ⟨Tryz.prog,tys,cfilesR_lib,cfilesR_fns,cfilesR_prims,[]⟩:=qf_ mixed0 tys0 (.cons vw_ v1_ .nil) .nil .nil rfl
theorem qch_:Pure Tryz.prog 30 cfilesR_S:=by
 refine qe_ qlq_ 6 (fi:={fn:=Tryz.f30,hooks:=[],draws:=[(10,[0,1,3,7,15,7,7,71,231,487,999,2047,4095,8191])]}) ⟨Tryz.func30,by kernel_rfl,by kernel_rfl⟩ ?_
 rintro _ K ⟨l,rfl,hK⟩
 replace hK:∀ r,r=.int .i64 (checkFiles l)→K r:=fun r h=>h ▸ hK
 repeat' first|(refine fun (b:Bool) hb=>?_;cases b<;>first|exact absurd hb (by decide)|exact nfl hb|exact nfr hb|skip)|(refine fun (hl:_≤MAXL)=>?_)|fail
 rotate_left
 ·refine hK _ ?_
  have h:=of_decide_eq_true (by assumption:decide ((12:Int)<(l.length:Int))=true)
  unfold checkFiles
  rw [if_pos (by omega)]
 have h12:¬ 12<l.length:=by
  have h:=of_decide_eq_false (by assumption:decide ((12:Int)<(l.length:Int))=false)
  omega
 have hcf:checkFiles l=filesGo none l:=by unfold checkFiles;rw [if_neg h12]
 rw [hcf] at hK
 conv=>whnf
 refine qb_ [0,8,9] (σ:=Nat) (fun i=>[(10,.int .i64 i)]) (fun i=>[]) (fun i=>i≤l.length∧filesGo (prevN l i) (l.drop i)=filesGo none l) (fun i=>l.length-i) 0 ?_
 conv=>whnf
 refine ⟨(by (refine qa_ ?_;refine Sel4.mk rfl rfl ?_ ?_<;>(repeat' first|exact True.intro|exact rfl|exact .inl rfl|exact .inr rfl|refine And.intro ?_ ?_|fail))),⟨Nat.zero_le _,rfl⟩,fun i hi=>?_⟩
 obtain ⟨hi,hg⟩:=hi
 repeat' first|(refine fun (b:Bool) hb=>?_;cases b<;>first|exact absurd hb (by decide)|exact nfl hb|exact nfr hb|skip)|refine ⟨_,rfl,?_,rfl,?_⟩|fail
 ·have h:=of_decide_eq_false (by assumption:decide ((i:Int)<(l.length:Int))=false)
  have e:l.drop i=[]:=List.drop_eq_nil_of_le (by omega)
  rw [e] at hg
  conv=>whnf
  refine hK _ ?_
  rw [←hg]
  rfl
 ·have h:=of_decide_eq_true (by assumption:decide ((i:Int)<(l.length:Int))=true)
  show i<l.length
  omega
 have hlt:i<l.length:=by
  have h:=of_decide_eq_true (by assumption:decide ((i:Int)<(l.length:Int))=true)
  omega
 rw [qcg_ hlt] at hg
 refine ⟨l[i].name,rfl,?_⟩
 repeat' first|exact True.intro|(refine fun (b:Bool) hb=>?_;cases b<;>first|exact absurd hb (by decide)|exact nfl hb|exact nfr hb|skip)|(refine fun (hl:_≤MAXL)=>?_)|refine And.intro (a:=I64 _) ?_ ?_|refine ⟨_,⟨rfl,rfl⟩,?_⟩|refine ⟨_,And.intro (a:=I64 _) ?_ ⟨rfl,rfl⟩,?_⟩|refine And.intro (a:=chkPast _ _ _ _ _ _ _ _) ?_ ?_|fail
 ·unfold I64;omega
 ·have h1:isWord l[i].name=true := by
   have h:(!isWord l[i].name)=false:=by assumption
   simpa using h
  have h2:¬ (4000:Int)<(l[i].b.length:Int):=of_decide_eq_false (by assumption)
  have h3:¬ (0:Int)<(i:Int):=of_decide_eq_false (by assumption)
  have e0:i=0:=by omega
  have h4:notRise (prevN l i) l[i].name=false:=by
   have:prevN l i=none:=by unfold prevN;rw [if_pos e0]
   rw [this];rfl
  rw [if_neg (by rw [h1];decide),if_neg (by omega),if_neg (by rw [h4];decide)] at hg
  exact ⟨i+1,(by (refine qa_ ?_;refine Sel4.mk rfl rfl ?_ ?_<;>(repeat' first|exact True.intro|exact rfl|exact .inl rfl|exact .inr rfl|refine And.intro ?_ ?_|fail))),⟨hlt,hg⟩,by omega⟩
 ·unfold I64;omega
 ·have h1:isWord l[i].name=true := by
   have h:(!isWord l[i].name)=false:=by assumption
   simpa using h
  have h2:¬ (4000:Int)<(l[i].b.length:Int):=of_decide_eq_false (by assumption)
  have h3:(0:Int)<(i:Int):=of_decide_eq_true (by assumption)
  have hp:prevN l i=some (l[i-1]'(by omega)).name:=by
   unfold prevN
   rw [if_neg (by omega),List.getD_eq_getElem?_getD,List.getElem?_eq_getElem (by omega)]
   rfl
  rw [if_neg (by rw [h1];decide),if_neg (by omega),hp] at hg
  conv=>whnf
  refine ⟨_,⟨i-1,by omega,by omega,rfl,rfl,rfl⟩,?_⟩
  repeat' first|(refine fun (b:Bool) hb=>?_;cases b<;>first|exact absurd hb (by decide)|exact nfl hb|exact nfr hb|skip)|refine And.intro (a:=I64 _) ?_ ?_|refine ⟨_,⟨rfl,rfl⟩,?_⟩|fail
  ·unfold I64;omega
  ·have h4:notRise (some (l[i-1]'(by omega)).name) l[i].name=false := by
    have h:(Op.bytesLess l[i].name (l[i-1]'(by omega)).name || decide (l[i].name=(l[i-1]'(by omega)).name))=false:=by assumption
    rw [qmm_] at h
    exact h
   rw [if_neg (by rw [h4];decide)] at hg
   exact ⟨i+1,(by (refine qa_ ?_;refine Sel4.mk rfl rfl ?_ ?_<;>(repeat' first|exact True.intro|exact rfl|exact .inl rfl|exact .inr rfl|refine And.intro ?_ ?_|fail))),⟨hlt,hg⟩,by omega⟩
  ·have h4:notRise (some (l[i-1]'(by omega)).name) l[i].name=true := by
    have h:(Op.bytesLess l[i].name (l[i-1]'(by omega)).name || decide (l[i].name=(l[i-1]'(by omega)).name))=true:=by assumption
    rw [qmm_] at h
    exact h
   rw [if_pos h4] at hg
   conv=>whnf
   exact hK _ (by rw [←hg])
 ·have h1:isWord l[i].name=true := by
   have h:(!isWord l[i].name)=false:=by assumption
   simpa using h
  have h2:(4000:Int)<(l[i].b.length:Int):=of_decide_eq_true (by assumption)
  rw [if_neg (by rw [h1];decide),if_pos (by omega)] at hg
  conv=>whnf
  exact hK _ (by rw [←hg])
 ·have h1:isWord l[i].name=false := by
   have h:(!isWord l[i].name)=true:=by assumption
   simpa using h
  rw [if_pos h1] at hg
  conv=>whnf
  exact hK _ (by rw [←hg])
end Gv
namespace Gv
variable [Glob] [Laid]
theorem qgi_:callable Tryz.prog 104=true:=by kernel_rfl
def checkPiR_S:Spec:=fun args K=>∃ p:PipeS,args=[pipeV p]∧K (.int .i64 (checkPipe p))
noncomputable def checkPiR_lib:List (Nat × Spec):=[]
noncomputable def checkPiR_fns:List (Nat × FnI):=[]
noncomputable def checkPiR_prims:List (Nat × PSpec):=[]
theorem qj8_:EnvOK ⟨Tryz.prog,tys,checkPiR_lib,checkPiR_fns,checkPiR_prims,[]⟩:=qf_ mixed0 tys0 .nil .nil .nil rfl
theorem qgz_:Pure Tryz.prog 104 checkPiR_S:=by
 refine qe_ qj8_ 6 (fi:={fn:=Tryz.f104,hooks:=[],draws:=[]}) ⟨Tryz.func104,by kernel_rfl,by kernel_rfl⟩ ?_
 rintro _ K ⟨p,rfl,hK⟩
 replace hK:∀ r,r=.int .i64 (checkPipe p)→K r:=fun r h=>h ▸ hK
 unfold checkPipe at hK
 have hbe:(p.b=[])↔((p.b.length:Int)=0):=by rw [←List.length_eq_zero_iff];omega
 repeat' first|(refine fun (b:Bool) hb=>?_;cases b<;>first|exact absurd hb (by decide)|exact nfl hb|exact nfr hb|skip)|(refine fun (hl:_≤MAXL)=>?_)|fail
 all_goals (try (conv=>whnf))
 all_goals (skip)
 all_goals (try (conv=>whnf))
 all_goals (skip)
 all_goals (refine hK _ (congrArg (V.int .i64) ?_))
 all_goals simp only [decide_eq_true_eq,decide_eq_false_iff_not,Bool.not_eq_true',Bool.not_eq_false'] at *
 all_goals grind
end Gv
namespace Gv
variable [Glob] [Laid]
theorem insB5 {N:List Gp.Node} (G:GF N):∀ j,j≤N.length→insB N j≤5*j
 | 0,_=>by rw [qm5_];omega
 | j+1,h=>by
  have h1:=insB5 G j (by omega)
  have h2:=qu_ (G.node j (by omega))
  rw [zs_ (by omega)]
  have h3:nI N j≤5:=by unfold nI;omega
  omega
theorem qjk_:callable Tryz.prog 46=true:=by kernel_rfl
def checkMR_S:Spec:=fun args K=>∃ (m:MachS),args=[machV m]∧K (.int .i64 (checkMach m))
noncomputable def checkMR_lib:List (Nat × Spec):=[(47,checkGR_S),(30,cfilesR_S),(104,checkPiR_S),(105,outsR_S)]
noncomputable def checkMR_fns:List (Nat × FnI):=[]
noncomputable def checkMR_prims:List (Nat × PSpec):=[]
theorem qmp_:EnvOK ⟨Tryz.prog,tys,checkMR_lib,checkMR_fns,checkMR_prims,[]⟩:=qf_ mixed0 tys0 (.cons qcu_ qci_ (.cons qcm_ qch_ (.cons qgi_ qgz_ (.cons qdi_ qdh_ .nil)))) .nil .nil rfl
theorem qi8_:Pure Tryz.prog 46 checkMR_S:=by
 refine qe_ qmp_ 6 (fi:={fn:=Tryz.f46,hooks:=[4,7,15,28,30],draws:=[(26,[0,1,3,0,8,24,63,127,255,511,1023,255,2303,8191,16383])]}) ⟨Tryz.func46,by kernel_rfl,by kernel_rfl⟩ ?_
 rintro _ K ⟨m,rfl,hK⟩
 replace hK:∀ r,r=.int .i64 (checkMach m)→K r:=fun r h=>h ▸ hK
 conv=>whnf
 refine qd_ [1] (σ:=Unit) (fun _=>[(1,.ptr 0 0 0)]) (fun _=>[.box (machV m).cells]) (fun _=>checkG m.g=0) ?_
 conv=>whnf
 refine ⟨?_,fun _ hg=>?_⟩
 ·conv=>whnf
  refine ⟨m.g,rfl,?_⟩
  repeat' first|(refine fun (b:Bool) hb=>?_;cases b<;>first|exact absurd hb (by decide)|exact nfl hb|exact nfr hb|skip)|fail
  ·exact ⟨(),(by (refine qa_ ?_;refine Sel4.mk rfl rfl ?_ ?_<;>(repeat' first|exact True.intro|exact rfl|exact .inl rfl|exact .inr rfl|refine And.intro ?_ ?_|fail))),by simpa using ‹(!decide (checkG m.g=0))=false›⟩
  ·have h:checkG m.g≠0:=by simpa using ‹(!decide (checkG m.g=0))=true›
   conv=>whnf
   refine hK _ ?_
   unfold checkMach
   rw [if_pos h]
 conv=>whnf
 refine qd_ [1] (σ:=Unit) (fun _=>[]) (fun _=>[.box (machV m).cells]) (fun _=>checkFiles m.f=0) ?_
 conv=>whnf
 refine ⟨?_,fun _ hf=>?_⟩
 ·conv=>whnf
  refine ⟨m.f,rfl,?_⟩
  repeat' first|(refine fun (b:Bool) hb=>?_;cases b<;>first|exact absurd hb (by decide)|exact nfl hb|exact nfr hb|skip)|fail
  ·exact ⟨(),(by (refine qa_ ?_;refine Sel4.mk rfl rfl ?_ ?_<;>(repeat' first|exact True.intro|exact rfl|exact .inl rfl|exact .inr rfl|refine And.intro ?_ ?_|fail))),by simpa using ‹(!decide (checkFiles m.f=0))=false›⟩
  ·have h:checkFiles m.f≠0:=by simpa using ‹(!decide (checkFiles m.f=0))=true›
   conv=>whnf
   refine hK _ ?_
   unfold checkMach
   rw [if_neg (by rw [hg];decide),if_pos h]
 have hgf:=gf_of hg
 have hin:=zt_ m.g
 have c4:(m.p.length≠m.g.length∨m.pipes.length≠(allIns m.g).length)→V.int .i64 4=V.int .i64 (checkMach m):=fun h=>by unfold checkMach;rw [if_neg (by rw [hg];decide),if_neg (by rw [hf];decide),if_pos h]
 conv=>whnf
 repeat' first|(refine fun (hl:_≤MAXL)=>?_)|fail
 conv=>whnf
 refine qb_ [1,32,33] (σ:=Nat) (fun k=>[(34,.int .i64 k),(5,.int .i64 (insB m.g k))]) (fun _=>[.box (machV m).cells]) (fun k=>k≤m.g.length) (fun k=>m.g.length-k) 0 ?_
 conv=>whnf
 refine ⟨(by (refine qa_ ?_;refine Sel4.mk rfl rfl ?_ ?_<;>(repeat' first|exact True.intro|exact rfl|exact .inl rfl|exact .inr rfl|refine And.intro ?_ ?_|fail))),Nat.zero_le _,fun k hk=>?_⟩
 repeat' first|(refine fun (b:Bool) hb=>?_;cases b<;>first|exact absurd hb (by decide)|exact nfl hb|exact nfr hb|skip)|(refine fun (hl:_≤MAXL)=>?_)|refine And.intro (a:=I64 _) ?_ ?_|refine ⟨_,rfl,?_,rfl,?_⟩|fail
 rotate_left
 ·have h:=of_decide_eq_true (by assumption:decide ((k:Int)<(m.g.length:Int))=true)
  omega
 rotate_right
 ·have hkl:k=m.g.length := by
   have h:=of_decide_eq_false (by assumption:decide ((k:Int)<(m.g.length:Int))=false)
   omega
  subst hkl
  rw [hin]
  conv=>whnf
  refine qd_ [1] (σ:=Unit) (fun _=>[]) (fun _=>[.box (machV m).cells]) (fun _=>¬ (m.p.length≠m.g.length∨m.pipes.length≠(allIns m.g).length)) ?_
  conv=>whnf
  refine ⟨?_,fun _ hl=>?_⟩
  ·conv=>whnf
   repeat' first|(refine fun (b:Bool) hb=>?_;cases b<;>first|exact absurd hb (by decide)|exact nfl hb|exact nfr hb|skip)|(refine fun (hl:_≤MAXL)=>?_)|fail
   all_goals (try (conv=>whnf))
   all_goals (skip)
   all_goals (try (conv=>whnf))
   all_goals (skip)
   all_goals first
    | exact hK _ (c4 (by grind))
    | exact ⟨(),(by (refine qa_ ?_;refine Sel4.mk rfl rfl ?_ ?_<;>(repeat' first|exact True.intro|exact rfl|exact .inl rfl|exact .inr rfl|refine And.intro ?_ ?_|fail))),by grind⟩
  have hbase:checkMach m=if pipesBad m.pipes≠0 then pipesBad m.pipes else if procsBad m.g m.p≠0 then procsBad m.g m.p else if 40000<m.sunk.length then 2 else 0:=by
   unfold checkMach
   rw [if_neg (by rw [hg];decide),if_neg (by rw [hf];decide),if_neg hl]
  conv=>whnf
  repeat' first|(refine fun (hl:_≤MAXL)=>?_)|fail
  conv=>whnf
  refine qb_ [1,60,61] (σ:=Nat) (fun k=>[(62,.int .i64 k)]) (fun _=>[.box (machV m).cells]) (fun k=>k≤m.pipes.length∧pipesBad (m.pipes.drop k)=pipesBad m.pipes) (fun k=>m.pipes.length-k) 0 ?_
  conv=>whnf
  refine ⟨(by (refine qa_ ?_;refine Sel4.mk rfl rfl ?_ ?_<;>(repeat' first|exact True.intro|exact rfl|exact .inl rfl|exact .inr rfl|refine And.intro ?_ ?_|fail))),⟨Nat.zero_le _,rfl⟩,fun k hk=>?_⟩
  obtain ⟨hk,hno⟩:=hk
  repeat' first|(refine fun (b:Bool) hb=>?_;cases b<;>first|exact absurd hb (by decide)|exact nfl hb|exact nfr hb|skip)|(refine fun (hl:_≤MAXL)=>?_)|refine ⟨_,rfl,?_,rfl,?_⟩|fail
  rotate_left
  ·have h:=of_decide_eq_true (by assumption:decide ((k:Int)<(m.pipes.length:Int))=true)
   omega
  ·have hk2:k<m.pipes.length := by
    have h:=of_decide_eq_true (by assumption:decide ((k:Int)<(m.pipes.length:Int))=true)
    omega
   have hst:pipesBad (m.pipes.drop k)=if checkPipe m.pipes[k]≠0 then checkPipe m.pipes[k] else pipesBad (m.pipes.drop (k+1)):=by
    rw [List.drop_eq_getElem_cons hk2];rfl
   rw [hno] at hst
   conv=>whnf
   refine ⟨m.pipes[k],rfl,?_⟩
   repeat' first|(refine fun (b:Bool) hb=>?_;cases b<;>first|exact absurd hb (by decide)|exact nfl hb|exact nfr hb|skip)|refine And.intro (a:=I64 _) ?_ ?_|fail
   ·have hM:m.pipes.length≤MAXL:=by assumption
    unfold I64;unfold MAXL at hM;omega
   ·have h0:checkPipe m.pipes[k]=0:=by simpa using ‹(!decide (checkPipe m.pipes[k]=0))=false›
    rw [if_neg (by rw [h0];decide)] at hst
    exact ⟨k+1,(by (refine qa_ ?_;refine Sel4.mk rfl rfl ?_ ?_<;>(repeat' first|exact True.intro|exact rfl|exact .inl rfl|exact .inr rfl|refine And.intro ?_ ?_|fail))),⟨hk2,hst.symm⟩,by omega⟩
   ·have h0:checkPipe m.pipes[k]≠0:=by simpa using ‹(!decide (checkPipe m.pipes[k]=0))=true›
    rw [if_pos h0] at hst
    conv=>whnf
    refine hK _ ?_
    rw [hbase,hst,if_pos h0]
  have hkl:k=m.pipes.length:=by
   have h:=of_decide_eq_false (by assumption:decide ((k:Int)<(m.pipes.length:Int))=false)
   omega
  subst hkl
  rw [List.drop_length] at hno
  have hp0:pipesBad m.pipes=0:=by rw [←hno];rfl
  rw [if_neg (by rw [hp0];decide)] at hbase
  conv=>whnf
  refine qb_ [1,73,74] (σ:=Nat) (fun k=>[(75,.int .i64 k)]) (fun _=>[.box (machV m).cells]) (fun k=>k≤m.p.length∧procsBad (m.g.drop k) (m.p.drop k)=procsBad m.g m.p) (fun k=>m.p.length-k) 0 ?_
  conv=>whnf
  refine ⟨(by (refine qa_ ?_;refine Sel4.mk rfl rfl ?_ ?_<;>(repeat' first|exact True.intro|exact rfl|exact .inl rfl|exact .inr rfl|refine And.intro ?_ ?_|fail))),⟨Nat.zero_le _,rfl⟩,fun k hk=>?_⟩
  obtain ⟨hk,hno⟩:=hk
  have hpl:m.p.length=m.g.length:=by omega
  have hend:k=m.p.length→procsBad m.g m.p=0:=fun e=>by
   rw [←hno,e,List.drop_length]
   cases m.g.drop m.p.length<;>rfl
  have hst:∀ (hk2:k<m.p.length) (hk3:k<m.g.length),procsBad m.g m.p=if checkProc m.g[k] m.p[k]≠0 then checkProc m.g[k] m.p[k] else procsBad (m.g.drop (k+1)) (m.p.drop (k+1)):=fun hk2 hk3=>by
   rw [←hno,List.drop_eq_getElem_cons hk2,List.drop_eq_getElem_cons hk3];rfl
  repeat' first|(refine fun (b:Bool) hb=>?_;cases b<;>first|exact absurd hb (by decide)|exact nfl hb|exact nfr hb|skip)|(refine fun (hl:_≤MAXL)=>?_)|refine ⟨_,rfl,?_,rfl,?_⟩|fail
  ·have hkl := hend (by
    have h:=of_decide_eq_false (by assumption:decide ((k:Int)<(m.p.length:Int))=false)
    omega)
   conv=>whnf
   refine hK _ ?_
   rw [hbase,if_neg (by rw [hkl];decide),if_neg]
   have h:=of_decide_eq_false (by assumption:decide (40000<(m.sunk.length:Int))=false)
   omega
  ·have hkl := hend (by
    have h:=of_decide_eq_false (by assumption:decide ((k:Int)<(m.p.length:Int))=false)
    omega)
   conv=>whnf
   refine hK _ ?_
   rw [hbase,if_neg (by rw [hkl];decide),if_pos]
   have h:=of_decide_eq_true (by assumption:decide (40000<(m.sunk.length:Int))=true)
   omega
  all_goals
   have hk2:k<m.p.length:=by
    have h:=of_decide_eq_true (by assumption:decide ((k:Int)<(m.p.length:Int))=true)
    omega
  ·exact hk2
  ·omega
  have hk3:k<m.g.length:=by omega
  have hst:=hst hk2 hk3
  have hcn:=hgf.node k hk3
  rw [qt_ hk3] at hcn
  have hi:=z7_ hcn
  have ho:=qy_ hcn
  have hbad:∀ c:Int,c≠0→checkProc m.g[k] m.p[k]=c→V.int .i64 c=V.int .i64 (checkMach m):=fun c hc h=>by
   rw [h,if_pos hc] at hst
   rw [hbase,hst,if_pos hc]
  have c4p:(m.p[k].got.length≠m.g[k].ins.length∨(m.p[k].out.length:Int)≠outsN m.g[k])→V.int .i64 4=V.int .i64 (checkMach m):=fun h=>hbad 4 (by decide) (by unfold checkProc;rw [if_pos h])
  conv=>whnf
  refine qd_ [1,12,13,73,74,75] (σ:=Unit) (fun _=>[(12,.ptr 1 0 0),(13,.ptr 2 0 0)]) (fun _=>[.box (machV m).cells,.box (procV m.p[k]).cells,.box (nodeV m.g[k]).cells]) (fun _=>¬ (m.p[k].got.length≠m.g[k].ins.length∨(m.p[k].out.length:Int)≠outsN m.g[k])) ?_
  conv=>whnf
  refine ⟨?_,fun _ h1=>?_⟩
  ·conv=>whnf
   repeat' first|exact True.intro|(refine fun (b:Bool) hb=>?_;cases b<;>first|exact absurd hb (by decide)|exact nfl hb|exact nfr hb|skip)|refine ⟨_,⟨rfl,rfl⟩,?_⟩|refine ⟨_,(fun _=>⟨rfl,rfl⟩),?_⟩|refine And.intro (a:=chkPast _ _ _ _ _ _ _ _) ?_ ?_|fail
   ·conv=>whnf
    apply Exists.intro
    apply And.intro
    ·refine ⟨m.g[k],rfl,?_⟩
     exact ⟨rfl,rfl⟩
    conv=>whnf
    repeat' first|(refine fun (b:Bool) hb=>?_;cases b<;>first|exact absurd hb (by decide)|exact nfl hb|exact nfr hb|skip)|refine ⟨_,⟨rfl,rfl⟩,?_⟩|fail
    all_goals (try (conv=>whnf))
    all_goals (skip)
    all_goals first
     | exact hK _ (c4p (by grind))
     | exact ⟨(),(by (refine qa_ ?_;refine Sel4.mk rfl rfl ?_ ?_<;>(repeat' first|exact True.intro|exact rfl|exact .inl rfl|exact .inr rfl|refine And.intro ?_ ?_|fail))),by grind⟩
   all_goals (try (conv=>whnf))
   all_goals (skip)
   all_goals (try (conv=>whnf))
   all_goals (skip)
   all_goals (try (conv=>whnf))
   all_goals (skip)
   all_goals first
    | exact hK _ (c4p (by grind))
    | exact ⟨(),(by (refine qa_ ?_;refine Sel4.mk rfl rfl ?_ ?_<;>(repeat' first|exact True.intro|exact rfl|exact .inl rfl|exact .inr rfl|refine And.intro ?_ ?_|fail))),by grind⟩
  have c3:(m.p[k].pos<0∨(m.g[k].ins.length:Int)<m.p[k].pos∨(m.p[k].read=false∧m.p[k].over=true))→V.int .i64 3=V.int .i64 (checkMach m):=fun h=>hbad 3 (by decide) (by unfold checkProc;rw [if_neg h1,if_pos h])
  have c3b:¬ (m.p[k].pos<0∨(m.g[k].ins.length:Int)<m.p[k].pos∨(m.p[k].read=false∧m.p[k].over=true))→(m.p[k].read=false∧m.p[k].pos=(m.g[k].ins.length:Int)∧0<m.g[k].ins.length)→V.int .i64 3=V.int .i64 (checkMach m):=fun h2 h=>hbad 3 (by decide) (by unfold checkProc;rw [if_neg h1,if_neg h2,if_pos h])
  conv=>whnf
  refine qd_ [1,12,73,74,75] (σ:=Unit) (fun _=>[]) (fun _=>[.box (machV m).cells,.box (procV m.p[k]).cells,.box (nodeV m.g[k]).cells]) (fun _=>¬ (m.p[k].pos<0∨(m.g[k].ins.length:Int)<m.p[k].pos∨(m.p[k].read=false∧m.p[k].over=true))∧¬ (m.p[k].read=false∧m.p[k].pos=(m.g[k].ins.length:Int)∧0<m.g[k].ins.length)) ?_
  conv=>whnf
  refine ⟨?_,fun _ h2=>?_⟩
  ·conv=>whnf
   repeat' first|(refine fun (b:Bool) hb=>?_;cases b<;>first|exact absurd hb (by decide)|exact nfl hb|exact nfr hb|skip)|(refine fun (hl:_≤MAXL)=>?_)|fail
   all_goals (try (conv=>whnf))
   all_goals (skip)
   all_goals (try (conv=>whnf))
   all_goals (skip)
   all_goals (try (conv=>whnf))
   all_goals (skip)
   all_goals (try (conv=>whnf))
   all_goals (skip)
   all_goals (try (conv=>whnf))
   all_goals (skip)
   all_goals (try (conv=>whnf))
   all_goals (skip)
   all_goals first
    | exact ⟨(),(by (refine qa_ ?_;refine Sel4.mk rfl rfl ?_ ?_<;>(repeat' first|exact True.intro|exact rfl|exact .inl rfl|exact .inr rfl|refine And.intro ?_ ?_|fail))),by grind⟩
    | exact hK _ (c3 (by grind))
    | exact hK _ (c3b (by grind) (by grind))
  obtain ⟨h2,h3⟩:=h2
  conv=>whnf
  repeat' first|(refine fun (hl:_≤MAXL)=>?_)|fail
  have c2:∀ b,b∈m.p[k].got++m.p[k].out→40000<b.length→V.int .i64 2=V.int .i64 (checkMach m):=fun b hb h=>hbad 2 (by decide) (by
   unfold checkProc
   rw [if_neg h1,if_neg h2,if_neg h3,if_pos]
   rw [List.any_eq_true]
   exact ⟨b,hb,decide_eq_true h⟩)
  have c0:(∀ b∈m.p[k].got++m.p[k].out,b.length≤40000)→procsBad m.g m.p=procsBad (m.g.drop (k+1)) (m.p.drop (k+1)):=fun h=>by
   rw [hst,if_neg]
   unfold checkProc
   rw [if_neg h1,if_neg h2,if_neg h3,if_neg]
   ·decide
   rw [List.any_eq_true]
   rintro ⟨b,hb,hd⟩
   have:=of_decide_eq_true hd
   have:=h b hb
   omega
  have hfl:m.p[k].got++m.p[k].out=[m.p[k].got,m.p[k].out].flatten:=by simp
  rw [hfl] at c2 c0
  have hLL:[m.p[k].got,m.p[k].out].length=2:=rfl
  generalize hLe:[m.p[k].got,m.p[k].out]=LL at c2 c0 hLL
  refine qb_ [1,73,74,75,144,145] (σ:=Nat) (fun i=>[(146,.int .i64 i)]) (fun _=>[.box (machV m).cells,.box (procV m.p[k]).cells,.box (nodeV m.g[k]).cells,.row 1 (LL.map lbV)]) (fun i=>i≤2∧∀ b∈(LL.take i).flatten,b.length≤40000) (fun i=>2-i) 0 ?_
  conv=>whnf
  refine ⟨by subst hLe;exact (by (refine qa_ ?_;refine Sel4.mk rfl rfl ?_ ?_<;>(repeat' first|exact True.intro|exact rfl|exact .inl rfl|exact .inr rfl|refine And.intro ?_ ?_|fail))),⟨Nat.zero_le _,by simp⟩,fun i hi=>?_⟩
  obtain ⟨hi,hno⟩:=hi
  have hlt:decide ((i:Int)<(2:Int))=true→i<LL.length:=fun h=>by
   have h:=of_decide_eq_true h
   omega
  conv=>whnf
  repeat' first|(refine fun (b:Bool) hb=>?_;cases b<;>first|exact absurd hb (by decide)|exact nfl hb|exact nfr hb|skip)|refine And.intro (a:=I64 _) ?_ ?_|refine ⟨rfl,?_⟩|fail
  ·have hM:m.p.length≤MAXL:=by assumption
   unfold I64;unfold MAXL at hM;omega
  ·have hi2:¬ (i:Int)<(2:Int):=of_decide_eq_false (by assumption)
   rw [List.take_of_length_le (by omega)] at hno
   exact ⟨k+1,(by (refine qa_ ?_;refine Sel4.mk rfl rfl ?_ ?_<;>(repeat' first|exact True.intro|exact rfl|exact .inl rfl|exact .inr rfl|refine And.intro ?_ ?_|fail))),⟨hk2,(c0 hno).symm⟩,by omega⟩
  have hi2:i<LL.length:=hlt (by assumption)
  have hg:(LL.map lbV)[i]?=some (lbV LL[i]):=by rw [List.getElem?_map,List.getElem?_eq_getElem hi2];rfl
  refine ⟨i,rfl,by rw [List.length_map];exact hi2,?_⟩
  conv=>whnf
  refine ⟨_,hg,?_⟩
  repeat' first|(refine fun (hl:_≤MAXL)=>?_)|fail
  refine qb_ [1,73,74,75,144,145,146,150,151] (σ:=Nat) (fun j=>[(152,.int .i64 j)]) (fun _=>[.box (machV m).cells,.box (procV m.p[k]).cells,.box (nodeV m.g[k]).cells,.row 1 (LL.map lbV)]) (fun j=>j≤LL[i].length∧∀ b∈LL[i].take j,b.length≤40000) (fun j=>LL[i].length-j) 0 ?_
  conv=>whnf
  refine ⟨(by (refine qa_ ?_;refine Sel4.mk rfl rfl ?_ ?_<;>(repeat' first|exact True.intro|exact rfl|exact .inl rfl|exact .inr rfl|refine And.intro ?_ ?_|fail))),⟨Nat.zero_le _,by simp⟩,fun j hj=>?_⟩
  obtain ⟨hj,hno2⟩:=hj
  have hjlt:decide ((j:Int)<(LL[i].length:Int))=true→j<LL[i].length:=fun h=>by
   have h:=of_decide_eq_true h
   omega
  conv=>whnf
  repeat' first|(refine fun (b:Bool) hb=>?_;cases b<;>first|exact absurd hb (by decide)|exact nfl hb|exact nfr hb|skip)|(refine fun (hl:_≤MAXL)=>?_)|refine And.intro (a:=I64 _) ?_ ?_|refine ⟨_,rfl,?_,rfl,?_⟩|fail
  ·unfold I64;omega
  ·have hjl:¬ (j:Int)<(LL[i].length:Int):=of_decide_eq_false (by assumption)
   rw [List.take_of_length_le (by omega)] at hno2
   refine ⟨i+1,(by (refine qa_ ?_;refine Sel4.mk rfl rfl ?_ ?_<;>(repeat' first|exact True.intro|exact rfl|exact .inl rfl|exact .inr rfl|refine And.intro ?_ ?_|fail))),⟨by omega,fun b hb=>?_⟩,by omega⟩
   rw [List.take_succ_eq_append_getElem hi2,List.flatten_append] at hb
   rcases List.mem_append.1 hb with hb|hb
   ·exact hno b hb
   ·exact hno2 b (by simpa using hb)
  ·exact hjlt (by assumption)
  ·have hM:LL[i].length≤MAXL:=by assumption
   have:=hjlt (by assumption)
   unfold I64;unfold MAXL at hM;omega
  ·have hj2:=hjlt (by assumption)
   refine ⟨j+1,(by (refine qa_ ?_;refine Sel4.mk rfl rfl ?_ ?_<;>(repeat' first|exact True.intro|exact rfl|exact .inl rfl|exact .inr rfl|refine And.intro ?_ ?_|fail))),⟨hj2,fun b hb=>?_⟩,by omega⟩
   rw [List.take_succ_eq_append_getElem hj2] at hb
   rcases List.mem_append.1 hb with hb|hb
   ·exact hno2 b hb
   ·rw [List.mem_singleton.1 hb]
    have h:=of_decide_eq_false (by assumption:decide (40000<(LL[i][j].length:Int))=false)
    omega
  ·have hj2:=hjlt (by assumption)
   have h:=of_decide_eq_true (by assumption:decide (40000<(LL[i][j].length:Int))=true)
   conv=>whnf
   exact hK _ (c2 LL[i][j] (List.mem_flatten.2 ⟨LL[i],List.getElem_mem hi2,List.getElem_mem hj2⟩) (by omega))
 all_goals
  have hk2:k<m.g.length:=by
   have h:=of_decide_eq_true (by assumption:decide ((k:Int)<(m.g.length:Int))=true)
   omega
 ·have h1:=insB5 hgf k hk
  have h2:=z7_ (hgf.node k hk2)
  rw [qt_ hk2] at h2
  have:=hgf.len.2
  unfold I64;omega
 ·have:=hgf.len.2
  unfold I64;omega
 conv=>whnf
 refine ⟨k+1,?_,hk2,by omega⟩
 have e:((insB m.g (k+1):Nat):Int)=(insB m.g k:Int)+(m.g[k].ins.length:Int):=by
  rw [zs_ hk2]
  unfold nI
  rw [qt_ hk2]
  omega
 rw [e]
 exact (by (refine qa_ ?_;refine Sel4.mk rfl rfl ?_ ?_<;>(repeat' first|exact True.intro|exact rfl|exact .inl rfl|exact .inr rfl|refine And.intro ?_ ?_|fail)))
end Gv
namespace Gv
variable [Glob] [Laid] [Nums] [Errs]
def IR (m:MachS):Prop:=checkG m.g=0∧checkFiles m.f=0∧Rt m.f m.g m
theorem qfz_ {α:Type} (φ : α→Nat) (c:Nat):∀ l:List α,(∀ x∈l,φ x≤c)→(l.map φ).sum≤l.length*c
 | [],_=>by simp
 | a::r,h=>by
  have h1:=h a (by simp)
  have h2:=qfz_ φ c r fun x hx=>h x (by simp [hx])
  rw [List.map_cons,List.sum_cons,List.length_cons,Nat.succ_mul]
  omega
theorem quw_ {m:MachS} {i:Nat} (hi:i<m.p.length):szP (pr m i)≤VV m:=by
 have:=xt_ hi ⟨[],0,[],true,true⟩
 have e:szP ⟨[],0,[],true,true⟩=0:=rfl
 rw [e] at this
 omega
theorem qpg_ {m:MachS} (R:Right m):Rt m.f m.g m:=by
 have G:=gf_of R.g
 have hO:∀ i (hi:i<m.g.length),Okp m.g i (pr m i)∧szP (pr m i)≤404040:=fun i hi=>by
  have hp:i<m.p.length:=by rw [R.np];exact hi
  obtain ⟨p1,p2,p3,p4,p5,p6⟩:=qfv_ (R.p i hi hp)
  have hpr:=pr_at hp
  have hnd:ndG m.g i=m.g[i]:=qt_ hi
  have hni:nI m.g i=m.g[i].ins.length:=by unfold nI;rw [hnd]
  have hi5:=z7_ (G.node i hi)
  have ho5:=qy_ (G.node i hi)
  rw [hnd] at hi5 ho5
  have hno:nO m.g i=(outsN m.g[i]).toNat:=by unfold nO;rw [hnd]
  refine ⟨⟨by rw [hpr,hni];exact p1,by rw [hpr,hno];omega,by rw [hpr];exact p3,by rw [hpr,hni];exact p4,fun h=>?_⟩,?_⟩
  ·rw [hpr] at h ⊢
   rw [hni]
   rcases p5 with q|q|q
   ·rw [q] at h;cases h
   ·exact .inr q
   ·exact .inl (by omega)
  ·rw [hpr]
   have h1:=qdu_ m.p[i].got 40000 fun b hb=>p6 b (List.mem_append_left _ hb)
   have h2:=qdu_ m.p[i].out 40000 fun b hb=>p6 b (List.mem_append_right _ hb)
   have h3:m.p[i].got.length*40000≤5*40000:=Nat.mul_le_mul_right 40000 (by omega)
   have h4:m.p[i].out.length*40000≤5*40000:=Nat.mul_le_mul_right 40000 (by omega)
   unfold szP
   split<;>omega
 refine ⟨⟨rfl,rfl,R.np,R.nq,fun i hi=>(hO i hi).1.got,fun i hi=>(hO i hi).1.out,fun i hi=>⟨(hO i hi).1.lo,(hO i hi).1.hi⟩⟩,R.q,fun i hi h=>(hO i hi).1.po h,?_⟩
 have h1:=qfz_ szP 404040 m.p fun x hx=>by
  obtain ⟨i,hi,rfl⟩:=List.getElem_of_mem hx
  rw [←pr_at hi]
  exact (hO i (by rw [←R.np];exact hi)).2
 have h2:=qfz_ szQ 40000 m.pipes fun q hq=>(q9_ ((qz_ q).trans (R.q q hq))).1
 have h3:=insB5 G m.g.length (Nat.le_refl _)
 rw [zt_,←R.nq] at h3
 have h4:=R.np
 have h5:=G.len.2
 have h6:m.p.length*404040≤60*404040:=Nat.mul_le_mul_right 404040 (by omega)
 have h7:m.pipes.length*40000≤300*40000:=Nat.mul_le_mul_right 40000 (by omega)
 have h8:=R.s
 unfold VV
 omega
theorem qh6_ {l:List Bs} {b:Bs} (h:b∈l):b.length≤l.flatten.length:=v7_ h
theorem qpc_:Steps IR:=fun m h i hi=>by
 obtain ⟨hg,hf,R⟩:=h
 have G:=gf_of hg
 have hff:∀ x∈m.f,x.b.length≤4000:=fun x hx=>((q8_ hf).2 x hx).2
 have hig:i<m.g.length:=by rw [←R.sh.np];exact hi
 have hv:=R.v
 have hs:=quw_ hi
 have hz:(pr m i).got.flatten.length+(pr m i).out.flatten.length≤szP (pr m i):=by
  unfold szP
  omega
 have hsk:m.sunk.length≤VV m:=by unfold VV;omega
 have R2:=qs0_ R G hff hig
 have hO:=R.okp hig
 refine ⟨⟨hg,hf,R.sh.np,R.sh.nq,hig,hO.got,hO.out,fun p hp=>?_,fun b hb=>?_⟩,⟨R.ck,hO.lo,?_,by omega,by omega⟩,?_⟩
 ·have:=(q9_ ((qz_ p).trans (R.ck p hp))).1
  omega
 ·rcases List.mem_append.1 hb with hb|hb
  ·have:=qh6_ hb;omega
  ·have:=qh6_ hb;omega
 ·cases hr:(pr m i).read with
  | true=>exact .inl rfl
  | false =>
   have:=hO.lo
   rcases hO.po hr with h|h
   ·exact .inr (.inr (by omega))
   ·exact .inr (.inl h)
 ·refine ⟨?_,?_,?_⟩
  ·rw [R2.sh.mg];exact hg
  ·rw [R2.sh.mf];exact hf
  ·rw [R2.sh.mg,R2.sh.mf];exact R2
theorem ir_of {m:MachS} (R:Right m):IR m:=⟨R.g,R.f,qpg_ R⟩
end Gv
namespace Gv
variable [Glob] [Laid]
def sorterNodes:List Gp.Node:=[srcN [97],splitN 2 [⟨0,0⟩],workN ⟨6,[],0⟩ [⟨1,0⟩],workN ⟨6,[],0⟩ [⟨1,1⟩],joinN 2 zCmd [⟨2,0⟩,⟨3,0⟩],sinkN [98] [⟨4,0⟩]]
theorem qlj_:callable Tryz.prog 56=true:=by kernel_rfl
def sorter_S:Spec:=fun args K=>args=[]∧K (.agg [.sl nodeV sorterNodes])
noncomputable def sorter_lib:List (Nat × Spec):=[]
noncomputable def sorter_fns:List (Nat × FnI):=[]
noncomputable def sorter_prims:List (Nat × PSpec):=[]
theorem qqx_:EnvOK ⟨Tryz.prog,tys,sorter_lib,sorter_fns,sorter_prims,[]⟩:=qf_ mixed0 tys0 .nil .nil .nil rfl
set_option maxRecDepth 10000 in
theorem qk6_:Pure Tryz.prog 56 sorter_S:=by
 refine qe_ qqx_ 6 (fi:={fn:=Tryz.f56,hooks:=[],draws:=[]}) ⟨Tryz.func56,by kernel_rfl,by kernel_rfl⟩ ?_
 rintro _ K ⟨rfl,hK⟩
 skip
 refine ⟨Gp.Port,portV,?_⟩
 skip
 refine ⟨Gp.Port,portV,[⟨0,0⟩],LeL.refl _,?_⟩
 skip
 refine ⟨Gp.Port,portV,[⟨1,0⟩],LeL.refl _,?_⟩
 skip
 refine ⟨Gp.Port,portV,[⟨1,1⟩],LeL.refl _,?_⟩
 skip
 refine ⟨Gp.Port,portV,[⟨2,0⟩,⟨3,0⟩],LeL.refl _,?_⟩
 skip
 refine ⟨Gp.Port,portV,[⟨4,0⟩],LeL.refl _,?_⟩
 skip
 refine ⟨Gp.Node,nodeV,sorterNodes,LeL.refl _,?_⟩
 exact hK
end Gv
namespace Gv
variable [Glob] [Laid]
def fileA:FileS:=⟨[97],[51,10,49,10,50,10,48]⟩
theorem flow1:checkG sorterNodes=0:=by decide +kernel
theorem flow3:checkFiles [fileA]=0:=by decide +kernel
end Gv
namespace Gv
variable [Glob] [Laid] [Nums] [Errs]
theorem qth_:callable Tryz.prog 22=true:=by kernel_rfl
def finX_S:Spec:=fun args K=>∃ (m:MachS) (n:Nat) (rr:MachS × Int) (I:MachS→Prop),args=[machV m]∧((checkMach m=0→copyZ m∧I m∧Steps I∧FinN n m rr)∧(checkMach m≠0→rr=(zM,checkMach m)))∧K (.tup [machV rr.1,.int .i64 rr.2])
noncomputable def finX_lib:List (Nat × Spec):=[(41,checkMX_S)]
noncomputable def finX_fns:List (Nat × FnI):=[(54,{ fn:=Tryz.f54,spec:=some copyG_P }),(55,{ fn:=Tryz.f55,spec:=some stepH_P })]
noncomputable def finX_prims:List (Nat × PSpec):=[]
theorem qvf_:EnvOK ⟨Tryz.prog,tys,finX_lib,finX_fns,finX_prims,[]⟩:=qf_ mixed0 tys0 (.cons wc_ vt_ .nil) (.told qit_ rfl qb8_ (.told qis_ rfl qb1_ .nil)) .nil rfl
theorem qtj_:Pure Tryz.prog 22 finX_S:=by
 refine qe_ qvf_ 6 (fi:={fn:=Tryz.f22,hooks:=[10,12,13],draws:=[]}) ⟨Tryz.func22,by kernel_rfl,by kernel_rfl⟩ ?_
 rintro _ K ⟨m,n,rr,I,rfl,⟨hI,hJ⟩,hK⟩
 replace hK:∀ r,r=.tup [machV rr.1,.int .i64 rr.2]→K r:=fun r h=>h ▸ hK
 skip
 refine ⟨m,rfl,?_⟩
 repeat' first|(refine fun (b:Bool) hb=>?_;cases b<;>first|exact absurd hb (by decide)|exact nfl hb|exact nfr hb|skip)|fail
 rotate_left
 ·have h0:checkMach m≠0:=by simpa using ‹(!decide (checkMach m=0))=true›
  conv=>whnf
  refine ⟨Gp.Node,nodeV,?_⟩
  refine ⟨FileS,fileV,?_⟩
  refine ⟨PipeS,pipeV,?_⟩
  refine ⟨ProcS,procV,?_⟩
  refine ⟨UInt8,byteV,?_⟩
  refine hK _ ?_
  rw [hJ h0]
  rfl
 have h0:checkMach m=0:=by simpa using ‹(!decide (checkMach m=0))=false›
 obtain ⟨hz,hIm,hS,hF⟩:=hI h0
 conv=>whnf
 refine ⟨m,rfl,hz,fun Q=>?_⟩
 conv=>whnf
 refine qb_ [1,2] (σ:=Nat × MachS) (fun s=>[]) (fun s=>[.box [.sl nodeV s.2.g,.sl fileV s.2.f,.own 2,.own 3,.sl byteV s.2.sunk],.box [.nil,.nil,.nil,.nil,.nil],.row 4 (s.2.pipes.map pipeV),.row 5 (procEls Q s.2.p),.pack Q (subsOf s.2.p)]) (fun s=>FinN s.1 s.2 rr∧I s.2) (fun s=>s.1) (n,m) ?_
 conv=>whnf
 refine ⟨(by (refine qc_ [some 0,some 1,some 2,some 3,some 4] rfl rfl ?_ ?_<;>(repeat' first|exact True.intro|exact rfl|exact .inl rfl|exact .inr rfl|refine And.intro ?_ ?_|fail))),⟨hF,hIm⟩,fun s hs=>?_⟩
 obtain ⟨n,M⟩:=s
 obtain ⟨hF,hIM⟩:=hs
 dsimp only at hF hIM
 conv=>whnf
 refine qd_ [1,2] (σ:=MachS × Bool × Bool) (fun s=>[(5,.bool s.2.1),(6,.bool s.2.2)]) (fun s=>[.box [.sl nodeV s.1.g,.sl fileV s.1.f,.own 2,.own 3,.sl byteV s.1.sunk],.box [.nil,.nil,.nil,.nil,.nil],.row 4 (s.1.pipes.map pipeV),.row 5 (procEls Q s.1.p),.pack Q (subsOf s.1.p)]) (fun s=>s=rnd M∧I s.1) ?_
 conv=>whnf
 refine ⟨?_,fun s hs=>?_⟩
 ·conv=>whnf
  repeat' first|(refine fun (hl:_≤MAXL)=>?_)|fail
  conv=>whnf
  refine qb_ [1,2,18] (σ:=Nat × MachS × Bool × Bool) (fun s=>[(5,.bool s.2.2.1),(6,.bool s.2.2.2),(19,.int .i64 s.1)]) (fun s=>[.box [.sl nodeV s.2.1.g,.sl fileV s.2.1.f,.own 2,.own 3,.sl byteV s.2.1.sunk],.box [.nil,.nil,.nil,.nil,.nil],.row 4 (s.2.1.pipes.map pipeV),.row 5 (procEls Q s.2.1.p),.pack Q (subsOf s.2.1.p)]) (fun s=>s.1≤M.p.length∧rndGo ((List.range M.p.length).drop s.1) s.2=rnd M∧I s.2.1∧s.2.1.p.length=M.p.length) (fun s=>M.p.length-s.1) (0,M,true,false) ?_
  conv=>whnf
  refine ⟨(by (refine qc_ [some 0,some 1,some 2,some 3,some 4] rfl rfl ?_ ?_<;>(repeat' first|exact True.intro|exact rfl|exact .inl rfl|exact .inr rfl|refine And.intro ?_ ?_|fail))),⟨Nat.zero_le _,rfl,hIM,rfl⟩,fun s hs=>?_⟩
  obtain ⟨k,N,ov,wt⟩:=s
  obtain ⟨hk,hgo,hIN,hNl⟩:=hs
  dsimp only at hk hgo hIN hNl
  repeat' first|(refine fun (b:Bool) hb=>?_;cases b<;>first|exact absurd hb (by decide)|exact nfl hb|exact nfr hb|skip)|fail
  ·have hkl:k=M.p.length := by
    have h:=of_decide_eq_false (by assumption:decide ((k:Int)<((procEls Q M.p).length:Int))=false)
    rw [qr_] at h
    omega
   subst hkl
   rw [List.drop_eq_nil_of_le (by rw [List.length_range];exact Nat.le_refl _)] at hgo
   refine ⟨(N,ov,wt),(by (refine qc_ [some 0,some 1,some 2,some 3,some 4] rfl rfl ?_ ?_<;>(repeat' first|exact True.intro|exact rfl|exact .inl rfl|exact .inr rfl|refine And.intro ?_ ?_|fail))),⟨hgo,hIN⟩⟩
  have hk2:k<M.p.length:=by
   have h:=of_decide_eq_true (by assumption:decide ((k:Int)<((procEls Q M.p).length:Int))=true)
   rw [qr_] at h
   omega
  have hkN:k<N.p.length:=by omega
  obtain ⟨hFo,hZo,hIo⟩:=hS N hIN k hkN
  have hdr:(List.range M.p.length).drop k=k::(List.range M.p.length).drop (k+1):=by
   rw [List.drop_eq_getElem_cons (by rw [List.length_range];exact hk2),List.getElem_range]
  rw [hdr,rndGo] at hgo
  dsimp only at hgo
  have hNl2:=qnh_ N k hkN
  have hpat:(procEls Q (stepM N k).1.p)[k]?=some (procEl Q k (pr (stepM N k).1 k)):=yf_ (by rw [pr_at (by omega)];exact List.getElem?_eq_getElem _)
  conv=>whnf
  refine qd_ [1,2,5,7,18,19] (σ:=Unit) (fun _=>[(6,.bool (decide ((stepM N k).2=0) || wt)),(7,.int .i64 k)]) (fun _=>[.box [.sl nodeV (stepM N k).1.g,.sl fileV (stepM N k).1.f,.own 2,.own 3,.sl byteV (stepM N k).1.sunk],.box [.nil,.nil,.nil,.nil,.nil],.row 4 ((stepM N k).1.pipes.map pipeV),.row 5 (procEls Q (stepM N k).1.p),.pack Q (subsOf (stepM N k).1.p)]) (fun _=>True) ?_
  conv=>whnf
  refine ⟨?_,fun _ _=>?_⟩
  ·conv=>whnf
   refine ⟨N,k,0,2,3,4,Q,rfl,rfl,rfl,rfl,rfl,hFo,hZo,?_⟩
   conv=>whnf
   repeat' first|(refine fun (b:Bool) hb=>?_;cases b<;>first|exact absurd hb (by decide)|exact nfl hb|exact nfr hb|skip)|fail
   ·have hb0:decide ((stepM N k).2=0)=false:=by assumption
    conv=>whnf
    rw [hb0]
    exact ⟨(),(by (refine qc_ [some 0,some 1,some 2,some 3,some 4] rfl rfl ?_ ?_<;>(repeat' first|exact True.intro|exact rfl|exact .inl rfl|exact .inr rfl|refine And.intro ?_ ?_|fail))),trivial⟩
   ·have hb0:decide ((stepM N k).2=0)=true:=by assumption
    conv=>whnf
    rw [hb0]
    exact ⟨(),(by (refine qc_ [some 0,some 1,some 2,some 3,some 4] rfl rfl ?_ ?_<;>(repeat' first|exact True.intro|exact rfl|exact .inl rfl|exact .inr rfl|refine And.intro ?_ ?_|fail))),trivial⟩
  have hI64:I64 ((k:Int)+1):=by
   have hM:(procEls Q M.p).length≤MAXL:=by assumption
   rw [qr_] at hM
   unfold MAXL at hM;unfold I64;omega
  conv=>whnf
  repeat' first|(refine fun (b:Bool) hb=>?_;cases b<;>first|exact absurd hb (by decide)|exact nfl hb|exact nfr hb|skip)|refine And.intro (a:=I64 _) ?_ ?_|refine ⟨rfl,?_⟩|fail
  ·exact hI64
  ·have ho:ov=false:=by assumption
   subst ho
   refine ⟨(k+1,(stepM N k).1,false,decide ((stepM N k).2=0) || wt),(by (refine qc_ [some 0,some 1,some 2,some 3,some 4] rfl rfl ?_ ?_<;>(repeat' first|exact True.intro|exact rfl|exact .inl rfl|exact .inr rfl|refine And.intro ?_ ?_|fail))),⟨hk2,hgo,hIo,by show (stepM N k).1.p.length=_;omega⟩,by show M.p.length-(k+1)<M.p.length-k;omega⟩
  ·have ho:ov=true:=by assumption
   subst ho
   refine ⟨k,rfl,by rw [qr_];omega,?_⟩
   conv=>whnf
   refine ⟨_,hpat,?_⟩
   conv=>whnf
   repeat' first|refine And.intro (a:=I64 _) ?_ ?_|fail
   ·exact hI64
   refine ⟨(k+1,(stepM N k).1,(pr (stepM N k).1 k).over,decide ((stepM N k).2=0) || wt),(by (refine qc_ [some 0,some 1,some 2,some 3,some 4] rfl rfl ?_ ?_<;>(repeat' first|exact True.intro|exact rfl|exact .inl rfl|exact .inr rfl|refine And.intro ?_ ?_|fail))),⟨hk2,hgo,hIo,by show (stepM N k).1.p.length=_;omega⟩,by show M.p.length-(k+1)<M.p.length-k;omega⟩
 obtain ⟨N,ov,wt⟩:=s
 obtain ⟨hs',hIN⟩:=hs
 dsimp only at hIN
 conv=>whnf
 refine qd_ [1,2,6] (σ:=Bool) (fun s=>[(38,.bool ov)]) (fun s=>match s with|true=>[.box [.sl nodeV N.g,.sl fileV N.f,.own 2,.own 3,.sl byteV N.sunk],.box [.nil,.nil,.nil,.nil,.nil],.row 4 (N.pipes.map pipeV),.row 5 (N.p.map procV),.dead]|false=>[.box [.sl nodeV N.g,.sl fileV N.f,.own 2,.own 3,.sl byteV N.sunk],.box [.nil,.nil,.nil,.nil,.nil],.row 4 (N.pipes.map pipeV),.row 5 (procEls Q N.p),.pack Q (subsOf N.p)]) (fun s=>s=ov) ?_
 conv=>whnf
 refine ⟨?_,fun s hs=>?_⟩
 ·conv=>whnf
  cases ov
  ·exact ⟨false,(by (refine qc_ [some 0,some 1,some 2,some 3,some 4] rfl rfl ?_ ?_<;>(repeat' first|exact True.intro|exact rfl|exact .inl rfl|exact .inr rfl|refine And.intro ?_ ?_|fail))),rfl⟩
  ·exact ⟨true,(qat_ 3 4 rfl rfl).trans (by (refine qc_ [some 0,some 1,some 2,some 3,some 4] rfl rfl ?_ ?_<;>(repeat' first|exact True.intro|exact rfl|exact .inl rfl|exact .inr rfl|refine And.intro ?_ ?_|fail))),rfl⟩
 subst hs
 have e1:(rnd M).1=N:=by rw [←hs']
 have e2:(rnd M).2.1=s:=by rw [←hs']
 have e3:(rnd M).2.2=wt:=by rw [←hs']
 cases s
 ·conv=>whnf
  repeat' first|(refine fun (b:Bool) hb=>?_;cases b<;>first|exact absurd hb (by decide)|exact nfl hb|exact nfr hb|skip)|fail
  ·have hw:wt=true := by
    have h:(!wt)=false:=by assumption
    simpa using h
   subst hw
   cases hF with
   | over h=>rw [e2] at h;cases h
   | stuck h h2=>rw [e3] at h2;cases h2
   | @more _ n' _ h h2 h3 =>
    rw [e1] at h3
    conv=>whnf
    refine ⟨(n',N),(by (refine qc_ [some 0,some 1,some 2,some 3,some 4] rfl rfl ?_ ?_<;>(repeat' first|exact True.intro|exact rfl|exact .inl rfl|exact .inr rfl|refine And.intro ?_ ?_|fail))),⟨h3,hIN⟩,by show n'<n'+1;omega⟩
  ·have hw:wt=false := by
    have h:(!wt)=true:=by assumption
    simpa using h
   subst hw
   cases hF with
   | over h=>rw [e2] at h;cases h
   | more h h2 h3=>rw [e3] at h2;cases h2
   | stuck h h2 =>
    conv=>whnf
    refine ⟨Gp.Node,nodeV,?_⟩
    refine ⟨FileS,fileV,?_⟩
    refine ⟨PipeS,pipeV,?_⟩
    refine ⟨ProcS,procV,?_⟩
    refine ⟨UInt8,byteV,?_⟩
    exact hK _ rfl
 ·conv=>whnf
  repeat' first|refine ⟨_,_,_,LeL.refl _,?_⟩|(refine fun (b:Bool) hb=>?_;cases b<;>first|exact absurd hb (by decide)|exact nfl hb|exact nfr hb|skip)|fail
  cases hF with
  | stuck h h2=>rw [e2] at h;cases h
  | more h h2 h3=>rw [e2] at h;cases h
  | over h =>
   conv=>whnf
   refine hK _ ?_
   rw [e1]
   rfl
end Gv
namespace Gv
variable [Glob] [Laid] [Nums] [Errs]
def insK (x:Bs):List Bs→List Bs
 | []=>[x]
 | y::r=>if x≤y then x::y::r else y::insK x r
def sortK:List Bs→List Bs
 | []=>[]
 | x::r=>insK x (sortK r)
theorem qah_ (x:Bs):∀ l,(insK x l).Perm (x::l)
 | []=>List.Perm.refl _
 | y::r=>by
  unfold insK
  split
  ·exact List.Perm.refl _
  ·exact ((qah_ x r).cons y).trans (List.Perm.swap x y r)
theorem qa4_ (x:Bs):∀ l,l.Pairwise (·≤·)→(insK x l).Pairwise (·≤·)
 | [],_=>by simp [insK]
 | y::r,h=>by
  obtain ⟨h1,h2⟩:=List.pairwise_cons.1 h
  unfold insK
  split
  ·rename_i hx
   refine List.pairwise_cons.2 ⟨fun z hz=>?_,h⟩
   rcases List.mem_cons.1 hz with rfl|hz
   ·exact hx
   ·exact List.le_trans hx (h1 z hz)
  ·rename_i hx
   refine List.pairwise_cons.2 ⟨fun z hz=>?_,qa4_ x r h2⟩
   rcases List.mem_cons.1 ((qah_ x r).mem_iff.1 hz) with rfl|hz
   ·exact (List.le_total _ _).resolve_right hx
   ·exact h1 z hz
theorem qd1_:∀ l,l.Perm (sortK l)∧(sortK l).Pairwise (·≤·)
 | []=>⟨List.Perm.refl _,List.Pairwise.nil⟩
 | x::r=>by
  obtain ⟨h1,h2⟩:=qd1_ r
  exact ⟨(h1.cons x).trans (qah_ x (sortK r)).symm,qa4_ x _ h2⟩
def makeK (n:Gp.Node) (f:List FileS) (ins:List Bs):List Bs :=
 if n.kind=3∧n.c.kind=6 then [put (sortK (linesOf (ins.getD 0 [])))] else makeN n f ins
theorem qsi_ (n:Gp.Node) (f:List FileS) (ins:List Bs):makeN n f ins=makeK n f ins:=by
 unfold makeK
 split
 ·rename_i h
  unfold makeN
  rw [if_neg (by omega),if_neg (by omega),if_pos h.1]
  unfold linesC
  rw [if_pos h.2,qri_ (qd1_ _).1 (qd1_ _).2]
 ·rfl
def fullK (m:MachS) (i:Nat):MachS:=setP m i ⟨(pr m i).got.map fun _=>[],(pr m i).pos,catL (pr m i).out (makeK (ndG m.g i) m.f (pr m i).got),true,(pr m i).over⟩
theorem qt7_:fullM=fullK:=by
 funext m i
 unfold fullM fullK fullP
 rw [qsi_]
def readK (m:MachS) (i:Nat):Option MachS :=
 let x:=insB m.g i+(pr m i).pos.toNat
 if nI m.g i=0 then some (fullK m i)
 else if (qu m x).b≠[] then some (cameM (setQ m x ⟨(qu m x).b.drop 8,(qu m x).room,(qu m x).closed,(qu m x).shut⟩) i ((qu m x).b.take 8))
 else if (qu m x).closed=false then none
 else if (pr m i).pos+1=(nI m.g i:Int) then some (fullK (setP m i (nextP (pr m i))) i)
 else some (setP m i (nextP (pr m i)))
theorem qsq_:readM=readK:=by
 funext m i
 unfold readM readK
 rw [qt7_]
def stepK (m:MachS) (i:Nat):MachS × Int :=
 if (pr m i).over=true then (m,7)
 else if (pr m i).out.any (fun b=>decide (b≠[]))=true then
  match (List.range (pr m i).out.length).find? (canW m i) with
  | some k=>(doW m i k,0)
  | none=>(m,8)
 else if (pr m i).read=true then (closeM m i,0)
 else match readK m i with
  | some m'=>(m',0)
  | none=>(m,8)
theorem qtt_:stepM=stepK:=by
 funext m i
 unfold stepM stepK
 rw [qsq_]
 rfl
def rndGoK:List Nat→MachS × Bool × Bool→MachS × Bool × Bool
 | [],s=>s
 | i::r,s=>rndGoK r ((stepK s.1 i).1,s.2.1 && (pr (stepK s.1 i).1 i).over,decide ((stepK s.1 i).2=0) || s.2.2)
theorem qoa_:∀ l s,rndGo l s=rndGoK l s
 | [],s=>rfl
 | i::r,s=>by
  unfold rndGo rndGoK
  rw [qoa_ r,qtt_]
def rndK (m:MachS):MachS × Bool × Bool:=rndGoK (List.range m.p.length) (m,true,false)
theorem rnd_K (m:MachS):rnd m=rndK m:=qoa_ _ _
def finF:Nat→MachS→Option (MachS × Int)
 | 0,_=>none
 | n+1,m=>match rndK m with
  | (M,true,_)=>some (M,0)
  | (_,false,false)=>some (zM,8)
  | (M,false,true)=>finF n M
theorem qmq_:∀ (n:Nat) (m:MachS) (r:MachS × Int),finF n m=some r→∃ k,FinN k m r
 | 0,_,_,h=>by cases h
 | n+1,m,r,h=>by
  unfold finF at h
  have e:=rnd_K m
  generalize rndK m=s at h e
  obtain ⟨M,a,b⟩:=s
  cases a with
  | true =>
   cases h
   have h1:=FinN.over (m:=m) (by rw [e])
   rw [e] at h1
   exact ⟨0,h1⟩
  | false =>
   cases b with
   | false =>
    cases h
    exact ⟨0,.stuck (by rw [e]) (by rw [e])⟩
   | true =>
    obtain ⟨k,hk⟩:=qmq_ n M r h
    exact ⟨k+1,.more (by rw [e]) (by rw [e]) (by rw [e];exact hk)⟩
theorem qum_:checkMach (freshM sorterNodes [fileA] 1)=0:=by decide +kernel
theorem qqf_:(finF 300 (freshM sorterNodes [fileA] 1)).map (fun r=>(r.1.sunk,r.2))=some ([48,10,49,10,50,10,51,10],0):=by decide +kernel
theorem qrj_:∃ n M,FinN n (freshM sorterNodes [fileA] 1) (M,0)∧M.sunk=[48,10,49,10,50,10,51,10]:=by
 have h:=qqf_
 cases hf:finF 300 (freshM sorterNodes [fileA] 1) with
 | none=>rw [hf] at h;cases h
 | some r =>
  rw [hf] at h
  simp only [Option.map_some,Option.some.injEq,Prod.mk.injEq] at h
  obtain ⟨k,hk⟩:=qmq_ _ _ _ hf
  refine ⟨k,r.1,?_,h.1⟩
  rw [←h.2]
  exact hk
theorem qj6_:(stepM (freshM sorterNodes [fileA] 1) 5).2=8:=by decide +kernel
theorem qjg_:callable Tryz.prog 13=true:=by kernel_rfl
def milledK_S:Spec:=fun args K=>args=[]∧K (.bool true)
noncomputable def milledK_lib:List (Nat × Spec):=[(56,sorter_S),(19,newX_S),(12,stepX_S),(22,finX_S)]
noncomputable def milledK_fns:List (Nat × FnI):=[]
noncomputable def milledK_prims:List (Nat × PSpec):=[]
theorem qob_:EnvOK ⟨Tryz.prog,tys,milledK_lib,milledK_fns,milledK_prims,[]⟩:=qf_ mixed0 tys0 (.cons qlj_ qk6_ (.cons qmj_ qmy_ (.cons qif_ qin_ (.cons qth_ qtj_ .nil)))) .nil .nil rfl
set_option maxRecDepth 10000 in
theorem qko_:Pure Tryz.prog 13 milledK_S:=by
 refine qe_ qob_ 6 (fi:={fn:=Tryz.f13,hooks:=[],draws:=[]}) ⟨Tryz.func13,by kernel_rfl,by kernel_rfl⟩ ?_
 rintro _ K ⟨rfl,hK⟩
 replace hK:∀ r,r=.bool true→K r:=fun r h=>h ▸ hK
 have c1:=qum_
 obtain ⟨n,M,c2,c5⟩:=qrj_
 have hnew:newP sorterNodes [fileA] 1=(freshM sorterNodes [fileA] 1,0):=by
  unfold newP
  rw [flow1,flow3,if_neg (by simp),if_neg (by simp),if_neg (by decide)]
 have hstep:stepP (freshM sorterNodes [fileA] 1) 5=(zM,8):=by
  unfold stepP
  rw [c1,if_neg (by simp),if_neg (by decide +kernel),show (5:Int).toNat=5 from rfl,qj6_,if_pos (by decide)]
 repeat' first|refine ⟨rfl,?_⟩|fail
 conv=>whnf
 refine ⟨[51,10,49,10,50,10,48],rfl,by decide,?_⟩
 skip
 refine ⟨FileS,fileV,[fileA],LeL.refl _,?_⟩
 refine ⟨sorterNodes,[fileA],1,rfl,?_⟩
 rw [hnew]
 skip
 conv=>whnf
 refine ⟨freshM sorterNodes [fileA] 1,5,rfl,?_⟩
 rw [hstep]
 skip
 conv=>whnf
 refine ⟨freshM sorterNodes [fileA] 1,n,(M,0),IR,rfl,⟨fun _=>⟨qbs_ (w0_ c1),ir_of (w0_ c1),qpc_,c2⟩,fun h=>absurd c1 h⟩,?_⟩
 repeat' first|(refine fun (b:Bool) hb=>?_;cases b<;>first|exact absurd hb (by decide)|exact nfl hb|exact nfr hb|skip)|refine ⟨_,(fun _=>rfl),rfl,?_⟩|fail
 all_goals (try (conv=>whnf))
 all_goals (skip)
 refine hK _ ?_
 show V.bool (decide (M.sunk=[48,10,49,10,50,10,51,10]))=_
 rw [c5]
 rfl
end Gv
namespace Gv
variable [Glob] [Laid]
end Gv
namespace Gv
variable [Glob] [Laid]
end Gv
namespace Gv
variable [Glob] [Laid]
end Gv
namespace Gv
variable [Glob] [Laid]
theorem qnk_:callable Tryz.prog 57=true:=by kernel_rfl
def equalP_S:Spec:=fun args K=>∃ a b:List Port,args=[.sl portV a,.sl portV b]∧K (.bool (decide (a=b)))
noncomputable def equalP_lib:List (Nat × Spec):=[]
noncomputable def equalP_fns:List (Nat × FnI):=[]
noncomputable def equalP_prims:List (Nat × PSpec):=[]
theorem qrb_:EnvOK ⟨Tryz.prog,tys,equalP_lib,equalP_fns,equalP_prims,[(47,[true,true])]⟩:=qf_ mixed0 tys0 .nil .nil .nil (by kernel_rfl)
theorem qnj_:Pure Tryz.prog 57 equalP_S:=by
 refine qe_ qrb_ 6 (fi:={fn:=Tryz.f57,hooks:=[],draws:=[(6,[0,0,3,7,0,0,48,112,255])]}) ⟨Tryz.func57,by kernel_rfl,by kernel_rfl⟩ ?_
 rintro _ K ⟨x,y,rfl,hK⟩
 replace hK:∀ r,r=.bool (decide (x=y))→K r:=fun r h=>h ▸ hK
 repeat' first|(refine fun (b:Bool) hb=>?_;cases b<;>first|exact absurd hb (by decide)|exact nfl hb|exact nfr hb|skip)|(refine fun (hl:_≤MAXL)=>?_)|fail
 rotate_left
 ·refine hK _ ?_
  congr 1
  grind
 conv=>whnf
 refine qb_ [0,1,12] (σ:=Nat) (fun i=>[(13,.int .i64 i)]) (fun _=>[]) (fun i=>i≤x.length∧x.take i=y.take i) (fun i=>x.length-i) 0 ?_
 conv=>whnf
 refine ⟨qc_ [] rfl rfl trivial (by (repeat' first|exact True.intro|exact rfl|exact .inl rfl|exact .inr rfl|refine And.intro ?_ ?_|fail)),⟨Nat.zero_le _,rfl⟩,?_⟩
 intro i ⟨hi,hI⟩
 repeat' first|(refine fun (b:Bool) hb=>?_;cases b<;>first|exact absurd hb (by decide)|exact nfl hb|exact nfr hb|skip)|refine And.intro (a:=I64 _) ?_ ?_|refine ⟨_,⟨rfl,rfl⟩,?_⟩|refine ⟨_,⟨_,rfl,?_,rfl,rfl,rfl⟩,?_⟩|fail
 all_goals try ((first|omega|(unfold I64;omega)|(simp only [List.length_append,List.length_map,List.length_cons,List.length_nil,Nat.mul_one,Int.ofNat_eq_natCast] at *;omega)|(dsimp only at *;omega)|(unfold I64;dsimp only at *;omega)|(unfold I64;grind)|grind);done)
 ·refine hK _ ?_
  congr 1
  have e:x=y:=by
   have h1:x.take i=x:=List.take_of_length_le (by grind)
   have h2:y.take i=y:=List.take_of_length_le (by grind)
   rw [←h1,←h2,hI]
  simp [e]
 ·have g1:i<x.length:=by grind
  have g2:i<y.length:=by grind
  refine ⟨i+1,?_,⟨?_,?_⟩,?_⟩
  ·refine qc_ [] rfl rfl trivial ?_
   (repeat' first|exact True.intro|exact rfl|exact .inl rfl|exact .inr rfl|refine And.intro ?_ ?_|fail)
  ·grind
  ·rw [List.take_succ_eq_append_getElem g1,List.take_succ_eq_append_getElem g2,hI]
   have e:x[i]=y[i]:=by
    have h1:x[i].node=y[i].node∧x[i].out=y[i].out:=by grind
    rcases hx:x[i] with ⟨a,b⟩
    rcases hy:y[i] with ⟨a',b'⟩
    rw [hx,hy] at h1
    simp only at h1
    rw [h1.1,h1.2]
   rw [e]
  ·grind
 ·refine hK _ ?_
  congr 1
  grind
end Gv
namespace Gv
variable [Glob] [Laid]
theorem qn0_:callable Tryz.prog 14=true:=by kernel_rfl
def sameGR_S:Spec:=fun args K=>∃ a b:List Gp.Node,args=[.agg [.sl nodeV a],.agg [.sl nodeV b]]∧K (.bool (decide (a=b)))
noncomputable def sameGR_lib:List (Nat × Spec):=[(57,equalP_S)]
noncomputable def sameGR_fns:List (Nat × FnI):=[]
noncomputable def sameGR_prims:List (Nat × PSpec):=[]
theorem qqn_:EnvOK ⟨Tryz.prog,tys,sameGR_lib,sameGR_fns,sameGR_prims,[(38,[true,false,true])]⟩:=qf_ mixed0 tys0 (.cons qnk_ qnj_ .nil) .nil .nil (by kernel_rfl)
theorem qlb_:Pure Tryz.prog 14 sameGR_S:=by
 refine qe_ qqn_ 6 (fi:={fn:=Tryz.f14,hooks:=[],draws:=[]}) ⟨Tryz.func14,by kernel_rfl,by kernel_rfl⟩ ?_
 rintro _ K ⟨a,b,rfl,hK⟩
 replace hK:∀ r,r=.bool (decide (a=b))→K r:=fun r h=>h ▸ hK
 repeat' first|(refine fun (b:Bool) hb=>?_;cases b<;>first|exact absurd hb (by decide)|exact nfl hb|exact nfr hb|skip)|(refine fun (hl:_≤MAXL)=>?_)|fail
 rotate_left
 ·refine hK _ ?_
  congr 1
  grind
 conv=>whnf
 refine qb_ [3,16,17] (σ:=Nat) (fun i=>[(18,.int .i64 i)]) (fun _=>[.box [.sl nodeV a],.box [.sl nodeV b]]) (fun i=>i≤a.length∧a.take i=b.take i) (fun i=>a.length-i) 0 ?_
 conv=>whnf
 refine ⟨(by (refine qa_ ?_;refine Sel4.mk rfl rfl ?_ ?_<;>(repeat' first|exact True.intro|exact rfl|exact .inl rfl|exact .inr rfl|refine And.intro ?_ ?_|fail))),⟨Nat.zero_le _,rfl⟩,fun i hi=>?_⟩
 obtain ⟨hi,hI⟩:=hi
 repeat' first|(refine fun (b:Bool) hb=>?_;cases b<;>first|exact absurd hb (by decide)|exact nfl hb|exact nfr hb|skip)|refine ⟨_,rfl,?_,rfl,?_⟩|fail
 ·refine hK _ ?_
  congr 1
  have e:a=b:=by
   have h1:a.take i=a:=List.take_of_length_le (by grind)
   have h2:b.take i=b:=List.take_of_length_le (by grind)
   rw [←h1,←h2,hI]
  simp [e]
 ·grind
 ·grind
 ·have g1:i<a.length:=by grind
  have g2:i<b.length:=by grind
  refine ⟨a[i].ins,b[i].ins,rfl,?_⟩
  repeat' first|(refine fun (b:Bool) hb=>?_;cases b<;>first|exact absurd hb (by decide)|exact nfl hb|exact nfr hb|skip)|refine And.intro (a:=I64 _) ?_ ?_|fail
  ·(first|omega|(unfold I64;omega)|(simp only [List.length_append,List.length_map,List.length_cons,List.length_nil,Nat.mul_one,Int.ofNat_eq_natCast] at *;omega)|(dsimp only at *;omega)|(unfold I64;dsimp only at *;omega)|(unfold I64;grind)|grind)
  ·refine ⟨i+1,(by (refine qa_ ?_;refine Sel4.mk rfl rfl ?_ ?_<;>(repeat' first|exact True.intro|exact rfl|exact .inl rfl|exact .inr rfl|refine And.intro ?_ ?_|fail))),⟨by omega,?_⟩,by omega⟩
   rw [List.take_succ_eq_append_getElem g1,List.take_succ_eq_append_getElem g2,hI]
   have e:a[i]=b[i]:=by
    rcases hx:a[i] with ⟨k,f,c,h,w,p⟩
    rcases hy:b[i] with ⟨k',f',c',h',w',p'⟩
    rcases c with ⟨c1,c2,c3⟩
    rcases c' with ⟨d1,d2,d3⟩
    simp_all
   rw [e]
  ·refine hK _ ?_
   congr 1
   have:¬ a=b:=fun e=>by
    subst e
    simp at *
   simp [this]
 all_goals
  refine hK _ ?_
  congr 1
  have:¬ a=b:=fun e=>by
   subst e
   simp at *
  simp [this]
end Gv
namespace Gv
variable [Glob] [Laid]
theorem vj_:callable Tryz.prog 18=true:=by kernel_rfl
def equalB_S:Spec:=fun args K=>∃ a b:List UInt8,args=[.sl byteV a,.sl byteV b]∧K (.bool (decide (a=b)))
noncomputable def equalB_lib:List (Nat × Spec):=[]
noncomputable def equalB_fns:List (Nat × FnI):=[]
noncomputable def equalB_prims:List (Nat × PSpec):=[]
theorem qrp_:EnvOK ⟨Tryz.prog,tys,equalB_lib,equalB_fns,equalB_prims,[]⟩:=qf_ mixed0 tys0 .nil .nil .nil rfl
theorem va_:Pure Tryz.prog 18 equalB_S:=by
 refine qe_ qrp_ 6 (fi:={fn:=Tryz.f18,hooks:=[],draws:=[(6,[0,0,3,7,0,0,48,112,255])]}) ⟨Tryz.func18,by kernel_rfl,by kernel_rfl⟩ ?_
 rintro _ K ⟨x,y,rfl,hK⟩
 replace hK:∀ r,r=.bool (decide (x=y))→K r:=fun r h=>h ▸ hK
 repeat' first|(refine fun (b:Bool) hb=>?_;cases b<;>first|exact absurd hb (by decide)|exact nfl hb|exact nfr hb|skip)|(refine fun (hl:_≤MAXL)=>?_)|fail
 rotate_left
 ·refine hK _ ?_
  congr 1
  grind
 conv=>whnf
 refine zj_ (σ:=Nat) (fun i=>[(0,.sl byteV x),(1,.sl byteV y),(12,.int .i64 x.length),(13,.int .i64 i),(4,.lit false)]) (fun _=>[]) (fun i=>i≤x.length∧x.take i=y.take i) (fun i=>x.length-i) 0 (qc_ [] rfl rfl trivial ?_) ⟨Nat.zero_le _,rfl⟩ ?_
 ·(repeat' first|exact True.intro|exact rfl|exact .inl rfl|exact .inr rfl|refine And.intro ?_ ?_|fail)
 intro i ⟨hi,hI⟩
 repeat' first|(refine fun (b:Bool) hb=>?_;cases b<;>first|exact absurd hb (by decide)|exact nfl hb|exact nfr hb|skip)|refine And.intro (a:=I64 _) ?_ ?_|refine ⟨_,⟨rfl,rfl⟩,?_⟩|refine ⟨_,⟨_,rfl,?_,rfl,rfl,rfl⟩,?_⟩|fail
 ·refine hK _ ?_
  congr 1
  have e:x=y:=by
   have h1:x.take i=x:=List.take_of_length_le (by grind)
   have h2:y.take i=y:=List.take_of_length_le (by grind)
   rw [←h1,←h2,hI]
  simp [e]
 ·grind
 ·grind
 ·unfold I64;grind
 ·refine ⟨i+1,?_,⟨?_,?_⟩,?_⟩
  ·refine qc_ [] rfl rfl trivial ?_
   (repeat' first|exact True.intro|exact rfl|exact .inl rfl|exact .inr rfl|refine And.intro ?_ ?_|fail)
  ·grind
  ·have g1:i<x.length:=by grind
   have g2:i<y.length:=by grind
   rw [List.take_succ_eq_append_getElem g1,List.take_succ_eq_append_getElem g2,hI]
   have e:x[i].toNat=y[i].toNat:=by grind
   rw [UInt8.toNat_inj.1 e]
  ·grind
 ·refine hK _ ?_
  congr 1
  grind
end Gv
namespace Gv
variable [Glob] [Laid]
theorem qph_ {a b:FileS} (h1:a.name=b.name) (h2:a.b=b.b):a=b:=by
 cases a;cases b;simp only at h1 h2;subst h1;subst h2;rfl
theorem qqa_:callable Tryz.prog 15=true:=by kernel_rfl
def sameF_S:Spec:=fun args K=>∃ a b:List FileS,args=[.sl fileV a,.sl fileV b]∧K (.bool (decide (a=b)))
noncomputable def sameF_lib:List (Nat × Spec):=[(18,equalB_S)]
noncomputable def sameF_fns:List (Nat × FnI):=[(58,{fn:=Tryz.f58,hooks:=[],draws:=[]}),(59,{fn:=Tryz.f59,hooks:=[],draws:=[]})]
noncomputable def sameF_prims:List (Nat × PSpec):=[]
theorem qsh_:EnvOK ⟨Tryz.prog,tys,sameF_lib,sameF_fns,sameF_prims,[]⟩:=qf_ mixed0 tys0 (.cons vj_ va_ .nil) (.cons (by kernel_rfl) ⟨Tryz.func58,by kernel_rfl,by kernel_rfl⟩ (.cons (by kernel_rfl) ⟨Tryz.func59,by kernel_rfl,by kernel_rfl⟩ .nil)) .nil rfl
theorem qqe_:Pure Tryz.prog 15 sameF_S:=by
 refine qe_ qsh_ 6 (fi:={fn:=Tryz.f15,hooks:=[],draws:=[]}) ⟨Tryz.func15,by kernel_rfl,by kernel_rfl⟩ ?_
 rintro _ K ⟨x,y,rfl,hK⟩
 replace hK:∀ r,r=.bool (decide (x=y))→K r:=fun r h=>h ▸ hK
 repeat' first|(refine fun (b:Bool) hb=>?_;cases b<;>first|exact absurd hb (by decide)|exact nfl hb|exact nfr hb|skip)|(refine fun (hl:_≤MAXL)=>?_)|fail
 rotate_left
 ·refine hK _ ?_
  congr 1
  grind
 conv=>whnf
 refine qb_ [1,2,15,16] (σ:=Nat) (fun i=>[(17,.int .i64 i)]) (fun _=>[]) (fun i=>i≤x.length∧x.take i=y.take i) (fun i=>x.length-i) 0 ?_
 conv=>whnf
 refine ⟨(by (refine qa_ ?_;refine Sel4.mk rfl rfl ?_ ?_<;>(repeat' first|exact True.intro|exact rfl|exact .inl rfl|exact .inr rfl|refine And.intro ?_ ?_|fail))),⟨Nat.zero_le _,rfl⟩,?_⟩
 intro i ⟨hi,hI⟩
 have hlen:x.length=y.length:=by
  have h:(!decide ((x.length:Int)=(y.length:Int)))=false:=by assumption
  have h2:(x.length:Int)=(y.length:Int):=by simpa using h
  omega
 repeat' first|(refine fun (b:Bool) hb=>?_;cases b<;>first|exact absurd hb (by decide)|exact nfl hb|exact nfr hb|skip)|refine ⟨_,rfl,?_,rfl,?_⟩|fail
 ·have hix:i=x.length := by
   have h:=of_decide_eq_false (by assumption:decide ((i:Int)<(x.length:Int))=false)
   omega
  subst hix
  rw [List.take_length,hlen,List.take_length] at hI
  conv=>whnf
  refine hK _ ?_
  congr 1
  exact (decide_eq_true hI).symm
 all_goals
  have g1:i<x.length:=by
   have h:=of_decide_eq_true (by assumption:decide ((i:Int)<(x.length:Int))=true)
   omega
  have g2:i<y.length:=by omega
 ·exact g1
 ·exact g2
 ·conv=>whnf
  refine hK _ ?_
  congr 1
  have hn:¬ x[i].name=y[i].name:=of_decide_eq_false (by assumption)
  exact (decide_eq_false fun h=>hn (by subst h;rfl)).symm
 ·have hn:x[i].name=y[i].name:=of_decide_eq_true (by assumption)
  conv=>whnf
  refine ⟨x[i].b,y[i].b,rfl,?_⟩
  repeat' first|(refine fun (b:Bool) hb=>?_;cases b<;>first|exact absurd hb (by decide)|exact nfl hb|exact nfr hb|skip)|refine And.intro (a:=I64 _) ?_ ?_|fail
  ·have hm:x.length≤MAXL:=by assumption
   unfold I64;unfold MAXL at hm;omega
  ·conv=>whnf
   have hbb:x[i].b=y[i].b:=by simpa using ‹(!decide (x[i].b=y[i].b))=false›
   refine ⟨i+1,(by (refine qa_ ?_;refine Sel4.mk rfl rfl ?_ ?_<;>(repeat' first|exact True.intro|exact rfl|exact .inl rfl|exact .inr rfl|refine And.intro ?_ ?_|fail))),⟨g1,?_⟩,by omega⟩
   rw [List.take_succ_eq_append_getElem g1,List.take_succ_eq_append_getElem g2,hI,qph_ hn hbb]
  ·have hbb:¬ x[i].b=y[i].b:=by simpa using ‹(!decide (x[i].b=y[i].b))=true›
   conv=>whnf
   refine hK _ ?_
   congr 1
   exact (decide_eq_false fun h=>hbb (by subst h;rfl)).symm
end Gv
namespace Gv
variable [Glob] [Laid]
def samePB (a b:PipeS):Bool:=decide (a.b=b.b) && (decide (a.room=b.room) && (decide (a.closed=b.closed) && decide (a.shut=b.shut)))
theorem samePB_iff {a b:PipeS}:samePB a b=true↔a=b:=by
 unfold samePB
 rw [Bool.and_eq_true,Bool.and_eq_true,Bool.and_eq_true,decide_eq_true_iff,decide_eq_true_iff,decide_eq_true_iff,decide_eq_true_iff]
 constructor
 ·obtain ⟨a1,a2,a3,a4⟩:=a
  obtain ⟨b1,b2,b3,b4⟩:=b
  rintro ⟨h1,h2,h3,h4⟩
  simp only at h1 h2 h3 h4
  subst h1;subst h2;subst h3;subst h4;rfl
 ·rintro rfl;exact ⟨rfl,rfl,rfl,rfl⟩
instance:DecidableEq PipeS:=fun a b=>if h:samePB a b=true then .isTrue (samePB_iff.1 h) else .isFalse fun e=>h (samePB_iff.2 e)
theorem qns_:callable Tryz.prog 17=true:=by kernel_rfl
def samePi_S:Spec:=fun args K=>∃ a b:PipeS,args=[pipeV a,pipeV b]∧K (.bool (samePB a b))
noncomputable def samePi_lib:List (Nat × Spec):=[(18,equalB_S)]
noncomputable def samePi_fns:List (Nat × FnI):=[]
noncomputable def samePi_prims:List (Nat × PSpec):=[]
theorem qo0_:EnvOK ⟨Tryz.prog,tys,samePi_lib,samePi_fns,samePi_prims,[]⟩:=qf_ mixed0 tys0 (.cons vj_ va_ .nil) .nil .nil rfl
theorem qnt_:Pure Tryz.prog 17 samePi_S:=by
 refine qe_ qo0_ 6 (fi:={fn:=Tryz.f17,hooks:=[],draws:=[]}) ⟨Tryz.func17,by kernel_rfl,by kernel_rfl⟩ ?_
 rintro _ K ⟨x,y,rfl,hK⟩
 replace hK:∀ r,r=.bool (samePB x y)→K r:=fun r h=>h ▸ hK
 skip
 refine ⟨x.b,y.b,rfl,?_⟩
 repeat' first|(refine fun (b:Bool) hb=>?_;cases b<;>first|exact absurd hb (by decide)|exact nfl hb|exact nfr hb|skip)|fail
 all_goals (try (conv=>whnf))
 all_goals (skip)
 all_goals
  refine hK _ ?_
  congr 1
  unfold samePB
  simp_all
  try (cases x.shut<;>cases y.shut<;>rfl)
end Gv
namespace Gv
variable [Glob] [Laid]
theorem qmg_:callable Tryz.prog 97=true:=by kernel_rfl
def listsR_S:Spec:=fun args K=>∃ a b:List Bs,args=[.sl blV a,.sl blV b]∧K (.bool (decide (a=b)))
noncomputable def listsR_lib:List (Nat × Spec):=[(18,equalB_S)]
noncomputable def listsR_fns:List (Nat × FnI):=[(60,{fn:=Tryz.f60,hooks:=[],draws:=[]}),(98,{fn:=Tryz.f98,hooks:=[],draws:=[]})]
noncomputable def listsR_prims:List (Nat × PSpec):=[]
theorem qqc_:EnvOK ⟨Tryz.prog,tys,listsR_lib,listsR_fns,listsR_prims,[]⟩:=qf_ mixed0 tys0 (.cons vj_ va_ .nil) (.cons (by kernel_rfl) ⟨Tryz.func60,by kernel_rfl,by kernel_rfl⟩ (.cons (by kernel_rfl) ⟨Tryz.func98,by kernel_rfl,by kernel_rfl⟩ .nil)) .nil rfl
theorem qnv_:Pure Tryz.prog 97 listsR_S:=by
 refine qe_ qqc_ 6 (fi:={fn:=Tryz.f97,hooks:=[],draws:=[]}) ⟨Tryz.func97,by kernel_rfl,by kernel_rfl⟩ ?_
 rintro _ K ⟨x,y,rfl,hK⟩
 replace hK:∀ r,r=.bool (decide (x=y))→K r:=fun r h=>h ▸ hK
 repeat' first|(refine fun (b:Bool) hb=>?_;cases b<;>first|exact absurd hb (by decide)|exact nfl hb|exact nfr hb|skip)|(refine fun (hl:_≤MAXL)=>?_)|fail
 rotate_left
 ·refine hK _ ?_
  congr 1
  grind
 conv=>whnf
 refine qb_ [1,2,15,16] (σ:=Nat) (fun i=>[(17,.int .i64 i)]) (fun _=>[]) (fun i=>i≤x.length∧x.take i=y.take i) (fun i=>x.length-i) 0 ?_
 conv=>whnf
 refine ⟨(by (refine qa_ ?_;refine Sel4.mk rfl rfl ?_ ?_<;>(repeat' first|exact True.intro|exact rfl|exact .inl rfl|exact .inr rfl|refine And.intro ?_ ?_|fail))),⟨Nat.zero_le _,rfl⟩,?_⟩
 intro i ⟨hi,hI⟩
 repeat' first|(refine fun (b:Bool) hb=>?_;cases b<;>first|exact absurd hb (by decide)|exact nfl hb|exact nfr hb|skip)|refine ⟨_,rfl,?_,rfl,?_⟩|fail
 all_goals try ((first|omega|(unfold I64;omega)|(simp only [List.length_append,List.length_map,List.length_cons,List.length_nil,Nat.mul_one,Int.ofNat_eq_natCast] at *;omega)|(dsimp only at *;omega)|(unfold I64;dsimp only at *;omega)|(unfold I64;grind)|grind);done)
 ·refine hK _ ?_
  congr 1
  have e:x=y:=by
   have h1:x.take i=x:=List.take_of_length_le (by grind)
   have h2:y.take i=y:=List.take_of_length_le (by grind)
   rw [←h1,←h2,hI]
  simp [e]
 have g1:i<x.length:=by grind
 have g2:i<y.length:=by grind
 refine ⟨x[i],y[i],rfl,?_⟩
 repeat' first|(refine fun (b:Bool) hb=>?_;cases b<;>first|exact absurd hb (by decide)|exact nfl hb|exact nfr hb|skip)|refine And.intro (a:=I64 _) ?_ ?_|fail
 all_goals try ((first|omega|(unfold I64;omega)|(simp only [List.length_append,List.length_map,List.length_cons,List.length_nil,Nat.mul_one,Int.ofNat_eq_natCast] at *;omega)|(dsimp only at *;omega)|(unfold I64;dsimp only at *;omega)|(unfold I64;grind)|grind);done)
 ·refine ⟨i+1,?_,⟨?_,?_⟩,?_⟩
  ·exact (by (refine qa_ ?_;refine Sel4.mk rfl rfl ?_ ?_<;>(repeat' first|exact True.intro|exact rfl|exact .inl rfl|exact .inr rfl|refine And.intro ?_ ?_|fail)))
  ·grind
  ·rw [List.take_succ_eq_append_getElem g1,List.take_succ_eq_append_getElem g2,hI]
   have e:x[i]=y[i]:=by grind
   rw [e]
  ·grind
 ·refine hK _ ?_
  congr 1
  grind
end Gv
namespace Gv
variable [Glob] [Laid]
theorem proc_eq {x y:ProcS}:x=y↔x.pos=y.pos∧x.read=y.read∧x.over=y.over∧x.got=y.got∧x.out=y.out:=by
 cases x;cases y
 simp only [ProcS.mk.injEq]
 constructor
 ·rintro ⟨a,b,c,d,e⟩;exact ⟨b,d,e,a,c⟩
 ·rintro ⟨a,b,c,d,e⟩;exact ⟨d,a,e,b,c⟩
theorem qlr_:callable Tryz.prog 101=true:=by kernel_rfl
def same2R_P:PSpec:=fun args rows K=>∃ x y:ProcS,args=[procV x,procV y,.ptr 0 0 0]∧rows=[.box [.fn 97 []]]∧(x≠y→K (.lit false) [.box [.fn 97 []],.box (procV x).cells,.box (procV y).cells])∧K (.bool (decide (x=y))) [.box [.fn 97 []],.box (procV x).cells,.box (procV y).cells]
noncomputable def same2R_lib:List (Nat × Spec):=[(97,listsR_S)]
noncomputable def same2R_fns:List (Nat × FnI):=[]
noncomputable def same2R_prims:List (Nat × PSpec):=[]
theorem qqb_:EnvOK ⟨Tryz.prog,tys,same2R_lib,same2R_fns,same2R_prims,[]⟩:=qf_ mixed0 tys0 (.cons qmg_ qnv_ .nil) .nil .nil rfl
theorem qgu_:PrimOK Tryz.prog 101 same2R_P:=by
 refine q3_ qqb_ 6 qlr_ (fi:={fn:=Tryz.f101,hooks:=[],draws:=[]}) ⟨Tryz.func101,by kernel_rfl,by kernel_rfl⟩ ?_
 rintro args rows K ⟨x,y,rfl,rfl,hL,hK⟩
 replace hK:∀ b,b=decide (x=y)→K (.bool b) [.box [.fn 97 []],.box (procV x).cells,.box (procV y).cells]:=fun b h=>h ▸ hK
 repeat' first|(refine fun (b:Bool) hb=>?_;cases b<;>first|exact absurd hb (by decide)|exact nfl hb|exact nfr hb|skip)|fail
 ·have h:¬ x.pos=y.pos:=of_decide_eq_false (by assumption)
  conv=>whnf
  exact hL fun e=>h (proc_eq.1 e).1
 ·have h:¬ x.read=y.read:=by simpa using (by assumption:(x.read == y.read)=false)
  conv=>whnf
  exact hL fun e=>h (proc_eq.1 e).2.1
 ·have h:¬ x.over=y.over:=by simpa using (by assumption:(x.over == y.over)=false)
  conv=>whnf
  exact hL fun e=>h (proc_eq.1 e).2.2.1
 have h1:x.pos=y.pos:=of_decide_eq_true (by assumption)
 have h2:x.read=y.read:=by simpa using (by assumption:(x.read == y.read)=true)
 have h3:x.over=y.over:=by simpa using (by assumption:(x.over == y.over)=true)
 conv=>whnf
 refine ⟨x.got,y.got,rfl,?_⟩
 repeat' first|(refine fun (b:Bool) hb=>?_;cases b<;>first|exact absurd hb (by decide)|exact nfl hb|exact nfr hb|skip)|fail
 ·have h:¬ x.got=y.got:=of_decide_eq_false (by assumption)
  conv=>whnf
  exact hL fun e=>h (proc_eq.1 e).2.2.2.1
 have h4:x.got=y.got:=of_decide_eq_true (by assumption)
 conv=>whnf
 refine ⟨x.out,y.out,rfl,?_⟩
 skip
 refine hK _ ?_
 by_cases h:x.out=y.out
 ·rw [decide_eq_true h,decide_eq_true (proc_eq.2 ⟨h1,h2,h3,h4,h⟩)]
 ·rw [decide_eq_false h,decide_eq_false (fun e=>h (proc_eq.1 e).2.2.2.2)]
end Gv
namespace Gv
variable [Glob] [Laid]
theorem qc1_ {α:Type} {a b:List α} {i:Nat} (h:a=b) (h1:i<a.length) (h2:i<b.length):a[i]=b[i]:=by subst h;rfl
def sameMB (a b:MachS):Bool:=decide (a.g=b.g∧a.f=b.f∧a.sunk=b.sunk∧a.pipes=b.pipes∧a.p=b.p)
theorem sameMB_iff {a b:MachS}:sameMB a b=true↔a=b:=by
 unfold sameMB
 rw [decide_eq_true_iff]
 constructor
 ·obtain ⟨a1,a2,a3,a4,a5⟩:=a
  obtain ⟨b1,b2,b3,b4,b5⟩:=b
  rintro ⟨h1,h2,h3,h4,h5⟩
  simp only at h1 h2 h3 h4 h5
  subst h1;subst h2;subst h3;subst h4;subst h5;rfl
 ·rintro rfl;exact ⟨rfl,rfl,rfl,rfl,rfl⟩
theorem qrm_:callable Tryz.prog 43=true:=by kernel_rfl
def sameM_S:Spec:=fun args K=>∃ a b:MachS,args=[machV a,machV b]∧K (.bool (sameMB a b))
noncomputable def sameM_lib:List (Nat × Spec):=[(14,sameGR_S),(15,sameF_S),(18,equalB_S),(17,samePi_S)]
noncomputable def sameM_fns:List (Nat × FnI):=[(99,{fn:=Tryz.f99,hooks:=[],draws:=[]}),(100,{fn:=Tryz.f100,hooks:=[],draws:=[]})]
noncomputable def sameM_prims:List (Nat × PSpec):=[(101,same2R_P)]
theorem qtn_:EnvOK ⟨Tryz.prog,tys,sameM_lib,sameM_fns,sameM_prims,[]⟩:=qf_ mixed0 tys0 (.cons qn0_ qlb_ (.cons qqa_ qqe_ (.cons vj_ va_ (.cons qns_ qnt_ .nil)))) (.cons (by kernel_rfl) ⟨Tryz.func99,by kernel_rfl,by kernel_rfl⟩ (.cons (by kernel_rfl) ⟨Tryz.func100,by kernel_rfl,by kernel_rfl⟩ .nil)) (.cons qgu_ .nil) rfl
theorem qov_:Pure Tryz.prog 43 sameM_S:=by
 refine qe_ qtn_ 6 (fi:={fn:=Tryz.f43,hooks:=[],draws:=[]}) ⟨Tryz.func43,by kernel_rfl,by kernel_rfl⟩ ?_
 rintro _ K ⟨x,y,rfl,hK⟩
 replace hK:∀ r,r=.bool (sameMB x y)→K r:=fun r h=>h ▸ hK
 skip
 refine ⟨x.g,y.g,rfl,?_⟩
 repeat' first|(refine fun (b:Bool) hb=>?_;cases b<;>first|exact absurd hb (by decide)|exact nfl hb|exact nfr hb|skip)|fail
 ·have h1:¬ x.g=y.g:=of_decide_eq_false (by assumption)
  conv=>whnf
  refine hK _ ?_
  congr 1
  exact (decide_eq_false fun h=>h1 h.1).symm
 have h1:x.g=y.g:=of_decide_eq_true (by assumption)
 conv=>whnf
 refine ⟨x.f,y.f,rfl,?_⟩
 repeat' first|(refine fun (b:Bool) hb=>?_;cases b<;>first|exact absurd hb (by decide)|exact nfl hb|exact nfr hb|skip)|fail
 ·have h2:¬ x.f=y.f:=of_decide_eq_false (by assumption)
  conv=>whnf
  refine hK _ ?_
  congr 1
  exact (decide_eq_false fun h=>h2 h.2.1).symm
 have h2:x.f=y.f:=of_decide_eq_true (by assumption)
 conv=>whnf
 refine ⟨x.sunk,y.sunk,rfl,?_⟩
 repeat' first|(refine fun (b:Bool) hb=>?_;cases b<;>first|exact absurd hb (by decide)|exact nfl hb|exact nfr hb|skip)|(refine fun (hl:_≤MAXL)=>?_)|fail
 ·have h3:¬ x.sunk=y.sunk:=of_decide_eq_false (by assumption)
  conv=>whnf
  refine hK _ ?_
  congr 1
  exact (decide_eq_false fun h=>h3 h.2.2.1).symm
 have h3:x.sunk=y.sunk:=of_decide_eq_true (by assumption)
 conv=>whnf
 rotate_left
 ·have h4:¬ x.pipes=y.pipes := fun h => by
   have hb:(!decide ((x.pipes.length:Int)=(y.pipes.length:Int)))=true:=by assumption
   rw [h] at hb
   simp at hb
  conv=>whnf
  refine hK _ ?_
  congr 1
  exact (decide_eq_false fun h=>h4 h.2.2.2.1).symm
 have hql:x.pipes.length=y.pipes.length:=by
  have hb:(!decide ((x.pipes.length:Int)=(y.pipes.length:Int)))=false:=by assumption
  have h2:(x.pipes.length:Int)=(y.pipes.length:Int):=by simpa using hb
  omega
 refine qb_ [1,2,15,16] (σ:=Nat) (fun i=>[(17,.int .i64 i)]) (fun _=>[.box (machV x).cells,.box (machV y).cells,.box [.fn 97 []]]) (fun i=>i≤x.pipes.length∧x.pipes.take i=y.pipes.take i) (fun i=>x.pipes.length-i) 0 ?_
 conv=>whnf
 refine ⟨(by (refine qa_ ?_;refine Sel4.mk rfl rfl ?_ ?_<;>(repeat' first|exact True.intro|exact rfl|exact .inl rfl|exact .inr rfl|refine And.intro ?_ ?_|fail))),⟨Nat.zero_le _,rfl⟩,fun i hi=>?_⟩
 obtain ⟨hi,hI⟩:=hi
 repeat' first|(refine fun (b:Bool) hb=>?_;cases b<;>first|exact absurd hb (by decide)|exact nfl hb|exact nfr hb|skip)|(refine fun (hl:_≤MAXL)=>?_)|refine ⟨_,rfl,?_,rfl,?_⟩|fail
 rotate_right 3
 ·have h:=of_decide_eq_true (by assumption:decide ((i:Int)<(x.pipes.length:Int))=true)
  omega
 ·have h:=of_decide_eq_true (by assumption:decide ((i:Int)<(x.pipes.length:Int))=true)
  omega
 ·have g1:i<x.pipes.length := by
   have h:=of_decide_eq_true (by assumption:decide ((i:Int)<(x.pipes.length:Int))=true)
   omega
  have g2:i<y.pipes.length:=by omega
  conv=>whnf
  refine ⟨x.pipes[i],y.pipes[i],rfl,?_⟩
  repeat' first|(refine fun (b:Bool) hb=>?_;cases b<;>first|exact absurd hb (by decide)|exact nfl hb|exact nfr hb|skip)|refine And.intro (a:=I64 _) ?_ ?_|fail
  ·have hm:x.pipes.length≤MAXL:=by assumption
   unfold I64;unfold MAXL at hm;omega
  ·have hbb:x.pipes[i]=y.pipes[i]:=samePB_iff.1 (by simpa using ‹(!samePB x.pipes[i] y.pipes[i])=false›)
   conv=>whnf
   refine ⟨i+1,(by (refine qa_ ?_;refine Sel4.mk rfl rfl ?_ ?_<;>(repeat' first|exact True.intro|exact rfl|exact .inl rfl|exact .inr rfl|refine And.intro ?_ ?_|fail))),⟨g1,?_⟩,by omega⟩
   rw [List.take_succ_eq_append_getElem g1,List.take_succ_eq_append_getElem g2,hI,hbb]
  ·have hbb:¬ x.pipes[i]=y.pipes[i] := fun h => by
    have hb:(!samePB x.pipes[i] y.pipes[i])=true:=by assumption
    rw [samePB_iff.2 h] at hb
    cases hb
   conv=>whnf
   refine hK _ ?_
   congr 1
   exact (decide_eq_false fun h=>hbb (qc1_ h.2.2.2.1 g1 g2)).symm
 all_goals
  have hix:i=x.pipes.length:=by
   have h:=of_decide_eq_false (by assumption:decide ((i:Int)<(x.pipes.length:Int))=false)
   omega
  subst hix
  rw [List.take_length,hql,List.take_length] at hI
 rotate_left
 ·have h5:¬ x.p=y.p := fun h => by
   have hb:(!decide ((x.p.length:Int)=(y.p.length:Int)))=true:=by assumption
   rw [h] at hb
   simp at hb
  conv=>whnf
  refine hK _ ?_
  congr 1
  exact (decide_eq_false fun h=>h5 h.2.2.2.2).symm
 have hpl:x.p.length=y.p.length:=by
  have hb:(!decide ((x.p.length:Int)=(y.p.length:Int)))=false:=by assumption
  have h2:(x.p.length:Int)=(y.p.length:Int):=by simpa using hb
  omega
 conv=>whnf
 refine qb_ [1,2,15,16] (σ:=Nat) (fun i=>[(17,.int .i64 i)]) (fun _=>[.box (machV x).cells,.box (machV y).cells,.box [.fn 97 []]]) (fun i=>i≤x.p.length∧x.p.take i=y.p.take i) (fun i=>x.p.length-i) 0 ?_
 conv=>whnf
 refine ⟨(by (refine qa_ ?_;refine Sel4.mk rfl rfl ?_ ?_<;>(repeat' first|exact True.intro|exact rfl|exact .inl rfl|exact .inr rfl|refine And.intro ?_ ?_|fail))),⟨Nat.zero_le _,rfl⟩,fun i hi=>?_⟩
 obtain ⟨hi,hJ⟩:=hi
 repeat' first|(refine fun (b:Bool) hb=>?_;cases b<;>first|exact absurd hb (by decide)|exact nfl hb|exact nfr hb|skip)|refine ⟨_,rfl,?_,rfl,?_⟩|fail
 ·have hix:i=x.p.length := by
   have h:=of_decide_eq_false (by assumption:decide ((i:Int)<(x.p.length:Int))=false)
   omega
  subst hix
  rw [List.take_length,hpl,List.take_length] at hJ
  conv=>whnf
  refine hK _ ?_
  congr 1
  exact (decide_eq_true ⟨h1,h2,h3,hI,hJ⟩).symm
 ·have h:=of_decide_eq_true (by assumption:decide ((i:Int)<(x.p.length:Int))=true)
  omega
 ·have h:=of_decide_eq_true (by assumption:decide ((i:Int)<(x.p.length:Int))=true)
  omega
 have g1:i<x.p.length:=by
  have h:=of_decide_eq_true (by assumption:decide ((i:Int)<(x.p.length:Int))=true)
  omega
 have g2:i<y.p.length:=by omega
 conv=>whnf
 refine ⟨x.p[i],y.p[i],rfl,rfl,fun hne=>?_,?_⟩
 ·conv=>whnf
  refine hK _ ?_
  congr 1
  exact (decide_eq_false fun h=>hne (qc1_ h.2.2.2.2 g1 g2)).symm
 repeat' first|(refine fun (b:Bool) hb=>?_;cases b<;>first|exact absurd hb (by decide)|exact nfl hb|exact nfr hb|skip)|refine And.intro (a:=I64 _) ?_ ?_|fail
 ·have hm:x.p.length≤MAXL:=by assumption
  unfold I64;unfold MAXL at hm;omega
 ·have hbb:x.p[i]=y.p[i]:=by simpa using ‹(!decide (x.p[i]=y.p[i]))=false›
  conv=>whnf
  refine ⟨i+1,(by (refine qa_ ?_;refine Sel4.mk rfl rfl ?_ ?_<;>(repeat' first|exact True.intro|exact rfl|exact .inl rfl|exact .inr rfl|refine And.intro ?_ ?_|fail))),⟨g1,?_⟩,by omega⟩
  rw [List.take_succ_eq_append_getElem g1,List.take_succ_eq_append_getElem g2,hJ,hbb]
 ·have hne:¬ x.p[i]=y.p[i]:=by simpa using ‹(!decide (x.p[i]=y.p[i]))=true›
  conv=>whnf
  refine hK _ ?_
  congr 1
  exact (decide_eq_false fun h=>hne (qc1_ h.2.2.2.2 g1 g2)).symm
end Gv
namespace Gv
variable [Glob] [Laid]
theorem qtx_:callable Tryz.prog 45=true:=by kernel_rfl
def ownG_P:PSpec:=fun args rows K=>∃ (m:MachS),args=[machV m]∧ownZ m∧∀ Q,numK rows.length fun a=>numK (Nat.add rows.length 1) fun b=>appK rows [.row 4 (m.pipes.map pipeV),.row 5 (procEls Q m.p),.pack Q (subsOf m.p)] fun rows'=>K (.agg [.sl nodeV m.g,.sl fileV m.f,.own a,.own b,.sl byteV m.sunk]) rows'
theorem qk0_:PrimOK Tryz.prog 45 ownG_P:=by
 intro w0 m0 args rows K R m' q w us C hv hT
 obtain ⟨m,rfl,hz,hK⟩:=hT
 refine qh3_ (qem_ qnq_) C (qna_ hv rfl) ⟨m,rfl,rfl,hz,fun Q ex=>⟨[.row 4 (m.pipes.map pipeV),.row 5 (procEls Q m.p),.pack Q (subsOf m.p)],ex,_,rfl,Nat.zero_le _,?_,rfl,?_,?_,_,rfl,?_,?_⟩⟩
 ·intro y hy
  simp only [List.mem_cons,List.not_mem_nil,or_false] at hy
  rcases hy with rfl|rfl|rfl<;>rfl
 ·intro c hc
  simp only [List.mem_cons,List.not_mem_nil,or_false] at hc
  rcases hc with rfl|rfl|rfl|rfl|rfl
  ·exact .inl rfl
  ·exact .inl rfl
  ·exact .inr ⟨0,by simp,rfl⟩
  ·exact .inr ⟨1,by simp,rfl⟩
  ·exact .inl rfl
 ·intro y hy
  simp only [List.mem_cons,List.not_mem_nil,or_false] at hy
  rcases hy with rfl|rfl|rfl<;>rfl
 ·intro c hc
  simp only [List.mem_cons,List.not_mem_nil,or_false] at hc
  rcases hc with rfl|rfl|rfl|rfl|rfl
  ·exact .inl rfl
  ·exact .inl rfl
  ·exact .inr ⟨0,rfl⟩
  ·exact .inr ⟨1,rfl⟩
  ·exact .inl rfl
 ·exact appK_ok _ _ _ (xm_ _ _ (xm_ _ _ (hK Q)))
end Gv
namespace Gv
variable [Glob] [Laid]
theorem numK6 {n:Nat} {k:Nat→Prop} (h:k n):numK n k:=by
 unfold numK
 split<;>exact h
theorem pushK6:∀ (l:Rows) (n:Nat) (y:Row) (k:Nat→Rows→Prop),k (n+l.length) (l++[y])→pushK n l y k
 | [],n,y,k,h=>numK6 h
 | x :: r, n, y, k, h => pushK6 r (n + 1) y _ (by
     show k (n+1+r.length) (x::(r++[y]))
     rw [show n+1+r.length=n+(x::r).length by simp;omega]
     exact h)
theorem setK6:∀ (l:Rows) (i:Nat) (y:Row) (k:Rows→Prop),i<l.length→k (l.set i y)→setK l i y k
 | x::r,0,y,k,_,h=>h
 | x::r,n+1,y,k,hl,h=>setK6 r n y _ (by simpa using hl) h
 | [],n,y,k,hl,h=>by simp at hl
theorem evO6 {L:VSlots} {t:Nat} {v:V} {k:V→Prop} (h:look L t=some v) (hk:k v):evO L (.tmp t) k:=by
 show (match look L t with|some v=>k v|none=>False)
 rw [h]
 exact hk
theorem qv_ {L:VSlots} {d j:Nat} {v:V} (h:d≠j):look ((d,v)::L) j=look L j:=by
 show (match Nat.beq d j with|true=>some v|false=>look L j)=_
 cases hb:Nat.beq d j with
 | false=>rfl
 | true=>exact absurd (Nat.eq_of_beq_eq_true hb) h
theorem zr_ {L:VSlots} {d:Nat} {v:V}:look ((d,v)::L) d=some v:=by
 show (match Nat.beq d d with|true=>some v|false=>look L d)=_
 rw [Nat.beq_refl]
theorem qs_ {sel:Nat→Bool} {i j:Nat} (h:j≠i):setF sel i j=sel j:=by
 unfold setF
 cases hb:Nat.beq j i with
 | false=>rfl
 | true=>exact absurd (Nat.eq_of_beq_eq_true hb) h
theorem wv_ {rows:Rows} {j:Nat} {y x:Row} (h:nth rows j=some x):nth (rows++[y]) j=some x:=by
 rw [nth_eq] at h ⊢
 rw [List.getElem?_append_left (List.getElem?_eq_some_iff.1 h).1]
 exact h
theorem qih_ {rows:Rows} {y:Row}:nth (rows++[y]) rows.length=some y:=by
 rw [nth_eq]
 simp
theorem xw_ {rows:Rows} {j:Nat} {x:Row} (h:nth rows j=some x):j<rows.length:=by
 rw [nth_eq] at h;exact (List.getElem?_eq_some_iff.1 h).1
theorem wu_ {rows:Rows} {i j:Nat} {y x:Row} (h:nth rows j=some x) (hn:i≠j):nth (rows.set i y) j=some x:=by
 rw [nth_eq] at h ⊢
 rw [List.getElem?_set_ne hn]
 exact h
theorem qfl_ {rows:Rows} {i:Nat} {y x:Row} (h:nth rows i=some x):nth (rows.set i y) i=some y:=by
 have:=xw_ h
 rw [nth_eq];simp [this]
def needB (ops:Array Oper) (p:Nat × Nat):Bool:=match ops[p.1]? with|some o=>o.after.toList.any fun e=>Region.binds .any e && Nat.beq e.on p.2|none=>false
theorem qt3_ {ops:Array Oper} {i j:Nat} (h:needB ops (i,j)=true) {o:Oper} (ho:ops[i]?=some o) {sel:Nat→Bool} (hall:∀ e∈o.after,Region.binds .any e=true→sel e.on=true):sel j=true:=by
 unfold needB at h
 dsimp only at h
 rw [ho] at h
 dsimp only at h
 rw [List.any_eq_true] at h
 obtain ⟨e,he,hb⟩:=h
 rw [Bool.and_eq_true] at hb
 have:=hall e (by simpa using he) hb.1
 rwa [Nat.eq_of_beq_eq_true hb.2] at this
noncomputable abbrev e6:Env:=⟨Tryz.prog,tys,[],[],[],[]⟩
theorem e6_ok:EnvOK e6:=qf_ mixed0 tys0 .nil .nil .nil rfl
def tab6 (g:List Gp.Node) (n:Gp.Node) (i:Nat):List (Nat × V):=[(34,.ptr 0 0 0),(35,.ptr 0 0 0),(36,.ptr 0 0 3),(37,.own 2),(38,.int .i64 i),(39,.ptr 2 i 0),(40,.ptr 0 0 0),(41,.ptr 0 0 0),(42,.ptr 0 0 0),(43,.ptr 0 0 0),(44,.sl nodeV g),(45,.int .i64 i),(46,.elt (nodeV n) 0),(47,nodeV n)]
theorem v4_ {g:List Gp.Node} {n:Gp.Node} {i j d:Nat} {v:V} (h:(tab6 g n i)[j]?=some (d,v)):d=34+j∧j<14:=by
 have hj:=(List.getElem?_eq_some_iff.1 h).1
 have hj:j<14:=hj
 have hj2:j=0∨j=1∨j=2∨j=3∨j=4∨j=5∨j=6∨j=7∨j=8∨j=9∨j=10∨j=11∨j=12∨j=13:=by omega
 rcases hj2 with rfl|rfl|rfl|rfl|rfl|rfl|rfl|rfl|rfl|rfl|rfl|rfl|rfl|rfl<;>(cases h;exact ⟨rfl,by decide⟩)
structure I6 (g:List Gp.Node) (n:Gp.Node) (k:Nat) (L0:VSlots) (B:Rows) (sel:Nat→Bool) (L:VSlots) (rows:Rows):Prop where
 keep:∀ j v,look L0 j=some v→look L j=some v
 base:∀ r x,nth B r=some x→nth rows r=some x
 tab:∀ j d v,(tab6 g n k)[j]?=some (d,v)→sel j=true→look L d=some v
 len:rows.length=B.length+(if sel 14=true then 1 else 0)+(if sel 15=true then 1 else 0)
 d16:sel 16=true→sel 14=true
 d17:sel 17=true→sel 15=true
 t7:sel 14=true→∃ r x,look L 7=some (.ptr r 0 0)∧nth rows r=some (.box [x])∧(sel 16=true→x=.ptr 2 k 0)∧B.length≤r
 t8:sel 15=true→∃ r c1 c2 c3 c4 c5 c6 c7 c8,look L 8=some (.ptr r 0 0)∧nth rows r=some (.box [c1,c2,c3,c4,c5,c6,c7,c8])∧(sel 17=true→[c1,c2,c3,c4,c5,c6,c7,c8]=(nodeV n).cells)∧B.length≤r
 ne:sel 14=true→sel 15=true→look L 7≠look L 8
theorem I6.look {g:List Gp.Node} {n:Gp.Node} {k:Nat} {L0:VSlots} {B:Rows} {sel:Nat→Bool} {L:VSlots} {rows:Rows} (I:I6 g n k L0 B sel L rows) (hL0:∀ d,34≤d→d<48→Gv.look L0 d=none) {j:Nat} {v:V} (h:(tab6 g n k)[j]?=some (34+j,v)):I6 g n k L0 B (setF sel j) (putV (some (34+j)) v L) rows:=by
 obtain ⟨-,hj⟩:=v4_ h
 have h7:∀ x,x=7∨x=8→Gv.look (putV (some (34+j)) v L) x=Gv.look L x:=fun x hx=>qv_ (by omega)
 have s:∀ x,14≤x→setF sel j x=sel x:=fun x hx=>qs_ (by omega)
 refine ⟨fun x w hx=>?_,I.base,fun x d w hx hs=>?_,?_,?_,?_,?_,?_,?_⟩
 ·have:(34+j)≠x := fun e => by
   have:=hL0 x (by omega) (by omega)
   rw [this] at hx;cases hx
  rw [show Gv.look (putV (some (34+j)) v L) x=Gv.look L x from qv_ this]
  exact I.keep x w hx
 ·obtain ⟨e,hx2⟩:=v4_ hx
  subst e
  by_cases e:x=j
  ·subst e
   rw [h] at hx
   cases hx
   exact zr_
  ·rw [show Gv.look (putV (some (34+j)) v L) (34+x)=Gv.look L (34+x) from qv_ (by omega)]
   rw [qs_ e] at hs
   exact I.tab x _ w hx hs
 ·rw [s 14 (by omega),s 15 (by omega)];exact I.len
 ·rw [s 16 (by omega),s 14 (by omega)];exact I.d16
 ·rw [s 17 (by omega),s 15 (by omega)];exact I.d17
 ·rw [s 16 (by omega),s 14 (by omega),h7 7 (.inl rfl)];exact I.t7
 ·rw [s 17 (by omega),s 15 (by omega),h7 8 (.inr rfl)];exact I.t8
 ·rw [s 14 (by omega),s 15 (by omega),h7 7 (.inl rfl),h7 8 (.inr rfl)];exact I.ne
noncomputable def ops6:List (Op × Option Nat × Option (Nat × Bool)):=[(.load 95 (.tmp 2),some 34,none),(.nilCheck (.tmp 34),some 35,none),(.fieldAddr 30 (.tmp 35) 3,some 36,none),(.load 27 (.tmp 36),some 37,none),(.move (.tmp 1),some 38,none),(.indexAddr 27 (.tmp 37) (.tmp 38),some 39,none),(.load 95 (.tmp 2),some 40,none),(.nilCheck (.tmp 40),some 41,none),(.fieldAddr 30 (.tmp 41) 0,some 42,none),(.fieldAddr 24 (.tmp 42) 0,some 43,none),(.load 22 (.tmp 43),some 44,none),(.move (.tmp 1),some 45,none),(.indexAddr 22 (.tmp 44) (.tmp 45),some 46,none),(.load 41 (.tmp 46),some 47,none),(.alloc 148,some 7,none),(.alloc 41,some 8,none),(.store 148 (.tmp 7) (.tmp 39),none,none),(.store 41 (.tmp 8) (.tmp 47),none,none)]
def need6:List (Nat × Nat):=[(1,0),(2,1),(3,2),(5,3),(5,4),(7,6),(8,7),(9,8),(10,9),(12,10),(12,11),(13,12),(16,14),(16,5),(17,15),(17,13)]
theorem step6 {g:List Gp.Node} {k:Nat} (hk:k<g.length) {L0:VSlots} {B:Rows} {els:List V} {fs p1 sk:V} {ops:Array Oper} {call:CallT} (hops:ops.toList.map (fun o => (o.op, o.dst, o.guard))=ops6) (hneed:need6.all (needB ops)=true)
  (h1:look L0 1=some (.int .i64 k)) (h2:look L0 2=some (.ptr 5 0 0)) (hL0:∀ d,34≤d→d<48→look L0 d=none) (h7:look L0 7=none) (h8:look L0 8=none)
  (b0:nth B 0=some (.box [.sl nodeV g,fs,p1,.own 2,sk])) (b2:nth B 2=some (.rowq 5 els)) (b5:nth B 5=some (.box [.ptr 0 0 0])) (hel:k<els.length) :
  AnyStep e6 call ops (I6 g g[k] k L0 B):=by
 intro sel L rows i o ho hs hall I
 have hz:ops.size=18:=by
  have:=congrArg List.length hops
  simpa [ops6] using this
 have hi:i<18:=by rw [←hz];exact (Array.getElem?_eq_some_iff.1 ho).1
 have ho2:ops6[i]?=some (o.op,o.dst,o.guard):=by
  rw [←hops,List.getElem?_map,Array.getElem?_toList,ho];rfl
 have nd:∀ j,(i,j)∈need6→sel j=true:=fun j hj=>qt3_ (List.all_eq_true.1 hneed _ hj) ho hall
 have B0:=I.base 0 _ b0
 have B2:=I.base 2 _ b2
 have B5:=I.base 5 _ b5
 have L1:=I.keep 1 _ h1
 have L2:=I.keep 2 _ h2
 have tb:∀ j v,(tab6 g g[k] k)[j]?=some (34+j,v)→(i,j)∈need6→look L (34+j)=some v:=fun j v hj hm=>I.tab j _ v hj (nd j hm)
 have fin:∀ {op:Op} {d:Option Nat} {gd:Option (Nat × Bool)},ops6[i]?=some (op,d,gd)→gd=none→(xop e6 call true L rows op fun v rows'=>I6 g g[k] k L0 B (setF sel i) (putV d v L) rows')→o.guard=none∧xop e6 call true L rows o.op fun v rows'=>I6 g g[k] k L0 B (setF sel i) (putV o.dst v L) rows':=fun {op d gd} h hg hx=>by
  rw [h] at ho2
  cases ho2
  exact ⟨hg,hx⟩
 have hi2:i=0∨i=1∨i=2∨i=3∨i=4∨i=5∨i=6∨i=7∨i=8∨i=9∨i=10∨i=11∨i=12∨i=13∨i=14∨i=15∨i=16∨i=17:=by omega
 rcases hi2 with rfl|rfl|rfl|rfl|rfl|rfl|rfl|rfl|rfl|rfl|rfl|rfl|rfl|rfl|rfl|rfl|rfl|rfl
 ·refine fin rfl rfl (evO6 L2 ?_)
  conv=>whnf
  rw [B5]
  conv=>whnf
  exact I.look hL0 (j:=0) rfl
 ·refine fin rfl rfl (evO6 (tb 0 _ rfl (by decide)) ?_)
  exact I.look hL0 (j:=1) rfl
 ·refine fin rfl rfl ?_
  conv=>whnf
  rw [tb 1 _ rfl (by decide)]
  conv=>whnf
  exact I.look hL0 (j:=2) rfl
 ·refine fin rfl rfl (evO6 (tb 2 _ rfl (by decide)) ?_)
  conv=>whnf
  rw [B0]
  conv=>whnf
  exact I.look hL0 (j:=3) rfl
 ·refine fin rfl rfl (evO6 L1 ?_)
  exact I.look hL0 (j:=4) rfl
 ·refine fin rfl rfl ?_
  conv=>whnf
  rw [tb 3 _ rfl (by decide)]
  conv=>whnf
  rw [tb 4 _ rfl (by decide)]
  conv=>whnf
  rw [B2]
  conv=>whnf
  refine ⟨rfl,k,rfl,hel,?_⟩
  exact I.look hL0 (j:=5) rfl
 ·refine fin rfl rfl (evO6 L2 ?_)
  conv=>whnf
  rw [B5]
  conv=>whnf
  exact I.look hL0 (j:=6) rfl
 ·refine fin rfl rfl (evO6 (tb 6 _ rfl (by decide)) ?_)
  exact I.look hL0 (j:=7) rfl
 ·refine fin rfl rfl ?_
  conv=>whnf
  rw [tb 7 _ rfl (by decide)]
  conv=>whnf
  exact I.look hL0 (j:=8) rfl
 ·refine fin rfl rfl ?_
  conv=>whnf
  rw [tb 8 _ rfl (by decide)]
  conv=>whnf
  exact I.look hL0 (j:=9) rfl
 ·refine fin rfl rfl (evO6 (tb 9 _ rfl (by decide)) ?_)
  conv=>whnf
  rw [B0]
  conv=>whnf
  exact I.look hL0 (j:=10) rfl
 ·refine fin rfl rfl (evO6 L1 ?_)
  exact I.look hL0 (j:=11) rfl
 ·refine fin rfl rfl ?_
  conv=>whnf
  rw [tb 10 _ rfl (by decide)]
  conv=>whnf
  rw [tb 11 _ rfl (by decide)]
  conv=>whnf
  refine ⟨k,rfl,hk,rfl,?_⟩
  exact I.look hL0 (j:=12) rfl
 ·refine fin rfl rfl (evO6 (tb 12 _ rfl (by decide)) ?_)
  conv=>whnf
  exact I.look hL0 (j:=13) rfl
 ·have s16:sel 16=false := by
   cases h:sel 16 with
   | false=>rfl
   | true=>have:=I.d16 h;rw [hs] at this;cases this
  refine fin rfl rfl ?_
  conv=>whnf
  refine pushK6 _ _ _ _ ?_
  rw [Nat.zero_add]
  refine ⟨fun x w hx=>?_,fun r x hx=>wv_ (I.base r x hx),fun x d w hx hsx=>?_,?_,fun h=>?_,fun h=>?_,fun h=>?_,fun h=>?_,fun h h'=>?_⟩
  ·rw [show look (putV (some 7) (.ptr rows.length 0 0) L) x=look L x from qv_ (fun e=>by subst e;rw [h7] at hx;cases hx)]
   exact I.keep x w hx
  ·obtain ⟨e,hx2⟩:=v4_ hx
   subst e
   rw [show look (putV (some 7) (.ptr rows.length 0 0) L) (34+x)=look L (34+x) from qv_ (by omega)]
   rw [qs_ (by omega)] at hsx
   exact I.tab x _ w hx hsx
  ·rw [List.length_append,I.len,hs,qdj_,qs_ (by decide)]
   simp;omega
  ·exact qdj_ _ _
  ·rw [qs_ (by decide)] at h ⊢
   exact I.d17 h
  ·refine ⟨rows.length,_,zr_,qih_,fun h=>?_,by rw [I.len];omega⟩
   rw [qs_ (by decide),s16] at h
   cases h
  ·rw [qs_ (by decide)] at h
   obtain ⟨r,c1,c2,c3,c4,c5,c6,c7,c8,g1,g2,g3,g4⟩:=I.t8 h
   exact ⟨r,c1,c2,c3,c4,c5,c6,c7,c8,(qv_ (by decide)).trans g1,wv_ g2,by rw [qs_ (by decide)];exact g3,g4⟩
  ·rw [qs_ (by decide)] at h'
   obtain ⟨r,c1,c2,c3,c4,c5,c6,c7,c8,g1,g2,g3,g4⟩:=I.t8 h'
   show look ((7,_)::L) 7≠look ((7,_)::L) 8
   rw [zr_,qv_ (by decide),g1]
   intro e
   have:=xw_ g2
   cases e;omega
 ·have s17:sel 17=false := by
   cases h:sel 17 with
   | false=>rfl
   | true=>have:=I.d17 h;rw [hs] at this;cases this
  refine fin rfl rfl ?_
  conv=>whnf
  refine pushK6 _ _ _ _ ?_
  rw [Nat.zero_add]
  refine ⟨fun x w hx=>?_,fun r x hx=>wv_ (I.base r x hx),fun x d w hx hsx=>?_,?_,fun h=>?_,fun h=>?_,fun h=>?_,fun h=>?_,fun h h'=>?_⟩
  ·rw [show look (putV (some 8) (.ptr rows.length 0 0) L) x=look L x from qv_ (fun e=>by subst e;rw [h8] at hx;cases hx)]
   exact I.keep x w hx
  ·obtain ⟨e,hx2⟩:=v4_ hx
   subst e
   rw [show look (putV (some 8) (.ptr rows.length 0 0) L) (34+x)=look L (34+x) from qv_ (by omega)]
   rw [qs_ (by omega)] at hsx
   exact I.tab x _ w hx hsx
  ·rw [List.length_append,I.len,hs,qdj_,qs_ (by decide)]
   simp
  ·rw [qs_ (by decide)] at h ⊢
   exact I.d16 h
  ·exact qdj_ _ _
  ·rw [qs_ (by decide)] at h
   obtain ⟨r,x,g1,g2,g3,g4⟩:=I.t7 h
   exact ⟨r,x,(qv_ (by decide)).trans g1,wv_ g2,by rw [qs_ (by decide)];exact g3,g4⟩
  ·refine ⟨rows.length,_,_,_,_,_,_,_,_,zr_,qih_,fun h=>?_,by rw [I.len];omega⟩
   rw [qs_ (by decide),s17] at h
   cases h
  ·rw [qs_ (by decide)] at h
   obtain ⟨r,x,g1,g2,g3,g4⟩:=I.t7 h
   show look ((8,_)::L) 7≠look ((8,_)::L) 8
   rw [zr_,qv_ (by decide),g1]
   intro e
   have:=xw_ g2
   cases e;omega
 ·have s14:sel 14=true:=nd 14 (by decide)
  obtain ⟨r,x,g1,g2,g3,g4⟩:=I.t7 s14
  refine fin rfl rfl (evO6 g1 (evO6 (tb 5 _ rfl (by decide)) ?_))
  conv=>whnf
  rw [g2]
  conv=>whnf
  refine setK6 _ _ _ _ (xw_ g2) ?_
  have sf:∀ x,x≠16→setF sel 16 x=sel x:=fun x hx=>qs_ hx
  have nB:∀ r' x,nth B r'=some x→r≠r':=fun r' x h=>by have:=xw_ h;omega
  refine ⟨I.keep,fun r' x hx=>wu_ (I.base r' x hx) (nB r' x hx),fun x d w hx hsx=>?_,?_,fun _=>by rw [sf 14 (by decide)];exact s14,?_,fun _=>⟨r,_,g1,qfl_ g2,fun _=>rfl,g4⟩,fun h=>?_,?_⟩
  ·obtain ⟨e,hx2⟩:=v4_ hx
   rw [sf x (by omega)] at hsx
   exact I.tab x d w hx hsx
  ·rw [List.length_set,sf 14 (by decide),sf 15 (by decide)];exact I.len
  ·rw [sf 17 (by decide),sf 15 (by decide)];exact I.d17
  ·rw [sf 15 (by decide)] at h
   obtain ⟨r',c1,c2,c3,c4,c5,c6,c7,c8,k1,k2,k3,k4⟩:=I.t8 h
   exact ⟨r',c1,c2,c3,c4,c5,c6,c7,c8,k1,wu_ k2 (fun e=>by subst e;exact I.ne s14 h (g1.trans k1.symm)),by rw [sf 17 (by decide)];exact k3,k4⟩
  ·rw [sf 14 (by decide),sf 15 (by decide)];exact I.ne
 ·have s15:sel 15=true:=nd 15 (by decide)
  obtain ⟨r,c1,c2,c3,c4,c5,c6,c7,c8,g1,g2,g3,g4⟩:=I.t8 s15
  refine fin rfl rfl (evO6 g1 (evO6 (tb 13 _ rfl (by decide)) ?_))
  conv=>whnf
  rw [g2]
  conv=>whnf
  refine setK6 _ _ _ _ (xw_ g2) ?_
  have sf:∀ x,x≠17→setF sel 17 x=sel x:=fun x hx=>qs_ hx
  have nB:∀ r' x,nth B r'=some x→r≠r':=fun r' x h=>by have:=xw_ h;omega
  refine ⟨I.keep,fun r' x hx=>wu_ (I.base r' x hx) (nB r' x hx),fun x d w hx hsx=>?_,?_,?_,fun _=>by rw [sf 15 (by decide)];exact s15,fun h=>?_,fun _=>⟨r,_,_,_,_,_,_,_,_,g1,qfl_ g2,fun _=>rfl,g4⟩,?_⟩
  ·obtain ⟨e,hx2⟩:=v4_ hx
   rw [sf x (by omega)] at hsx
   exact I.tab x d w hx hsx
  ·rw [List.length_set,sf 14 (by decide),sf 15 (by decide)];exact I.len
  ·rw [sf 16 (by decide),sf 14 (by decide)];exact I.d16
  ·rw [sf 14 (by decide)] at h
   obtain ⟨r',x,k1,k2,k3,k4⟩:=I.t7 h
   exact ⟨r',x,k1,wu_ k2 (fun e=>by subst e;exact I.ne h s15 (k1.trans g1.symm)),by rw [sf 16 (by decide)];exact k3,k4⟩
  ·rw [sf 14 (by decide),sf 15 (by decide)];exact I.ne
theorem sim6 {w0:Start} {m0 mb:Mem} {qb:Loc} {n:Nat} {L L':VSlots} {rows:Rows} {a:Act} {w:World} (h:∀ t v,look L' t=some v→look L t=some v) (S:SIM w0 m0 mb qb n L rows a w):SIM w0 m0 mb qb n L' rows a w:=by
 obtain ⟨⟨R,m,q,s1,s2,s3,s4⟩,s5,s6⟩:=S
 exact ⟨⟨R,m,q,s1,s2,fun t v e=>s3 t v (h t v e),s4⟩,s5,s6⟩
theorem y3_ {L0 L1:VSlots} {d:Nat} {v:V} (h:look L0 d=some v) (hs:∀ j w,look L1 j=some w→look L0 j=some w):∀ j w,look ((d,v)::L1) j=some w→look L0 j=some w:=fun j w hj=>by
 by_cases e:d=j
 ·subst e;rw [zr_] at hj;rw [←hj];exact h
 ·rw [qv_ e] at hj;exact hs j w hj
theorem rows6 {B rows:Rows} {x y:Row} {r:Nat} (hb:∀ r x,nth B r=some x→nth rows r=some x) (hl:rows.length=B.length+2) (hx:nth rows B.length=some x) (hy:nth rows (B.length+1)=some y):rows=B++[x,y]:=by
 refine List.ext_getElem? fun j=>?_
 rcases Nat.lt_or_ge j B.length with h|h
 ·rw [List.getElem?_append_left h,List.getElem?_eq_getElem h]
  have:=hb j B[j] (by rw [nth_eq,List.getElem?_eq_getElem h])
  rwa [nth_eq] at this
 ·rw [List.getElem?_append_right h]
  rw [nth_eq] at hx hy
  obtain ⟨d,rfl⟩:∃ d,j=B.length+d:=⟨j-B.length,by omega⟩
  rw [Nat.add_sub_cancel_left]
  match d with
  | 0=>exact hx
  | 1=>exact hy
  | d+2=>rw [List.getElem?_eq_none (by omega)];simp
theorem region6 {g:List Gp.Node} {k:Nat} (hk:k<g.length) {L0:VSlots} (L1:VSlots) {B:Rows} {els:List V} {fs p1 sk:V} {id:Nat} {ops:Array Oper} {W:VSlots→Rows→(VSlots→Rows→Prop)→Prop} {K:VSlots→Rows→Prop} (hops:ops.toList.map (fun o => (o.op, o.dst, o.guard))=ops6) (hneed:need6.all (needB ops)=true) (hback:backB ops=true)
  (h1:look L0 1=some (.int .i64 k)) (h2:look L0 2=some (.ptr 5 0 0)) (hL0:∀ d,34≤d→d<48→look L0 d=none) (h7:look L0 7=none) (h8:look L0 8=none)
  (b0:nth B 0=some (.box [.sl nodeV g,fs,p1,.own 2,sk])) (b2:nth B 2=some (.rowq 5 els)) (b5:nth B 5=some (.box [.ptr 0 0 0])) (hel:k<els.length)
  (hsub:∀ j v,look L1 j=some v→look L0 j=some v)
  (hW:Wk B.length ((8,.ptr B.length 0 0)::(7,.ptr (B.length+1) 0 0)::L1) (B++[.box (nodeV g[k]).cells,.box [.ptr 2 k 0]]) ((8,.ptr (B.length+1) 0 0)::(7,.ptr B.length 0 0)::L1) (B++[.box [.ptr 2 k 0],.box (nodeV g[k]).cells]))
  (hK:K ((8,.ptr (B.length+1) 0 0)::(7,.ptr B.length 0 0)::L1) (B++[.box [.ptr 2 k 0],.box (nodeV g[k]).cells])) :
  Borrow Tryz.prog (.region id ops true) ops.toList W L0 B K:=by
 refine .sem fun w0 m0 mb qb n a w Q hds S hQ=>?_
 have hqb:∀ r x,qb r=some x→r<B.length:=by
  obtain ⟨⟨R,m,q,s1,s2,s3,s4,s5⟩,s6,s7⟩:=S
  exact fun r x h=>s2.fresh r x (s5 r x h)
 refine qqt_ (E:=e6) e6_ok (y5_ e6_ok 0) hds hback (Inv:=I6 g g[k] k L0 B) ⟨fun _ _ h=>h,fun _ _ h=>h,nofun,rfl,nofun,nofun,nofun,nofun,nofun⟩ (step6 hk hops hneed h1 h2 hL0 h7 h8 b0 b2 b5 hel) (fun sel L rows a w hall I S'=>?_) S
 have hz:ops.size=18:=by
  have:=congrArg List.length hops
  simpa [ops6] using this
 have s14:=hall 14 (by omega)
 have s15:=hall 15 (by omega)
 have s16:=hall 16 (by omega)
 have s17:=hall 17 (by omega)
 obtain ⟨r,x,g1,g2,g3,g4⟩:=I.t7 s14
 obtain ⟨r',c1,c2,c3,c4,c5,c6,c7,c8,k1,k2,k3,k4⟩:=I.t8 s15
 have hl:=I.len
 rw [if_pos s14,if_pos s15] at hl
 rw [g3 s16] at g2
 rw [k3 s17] at k2
 have hne:r≠r':=fun e=>by subst e;exact I.ne s14 s15 (g1.trans k1.symm)
 have hr1:=xw_ g2
 have hr2:=xw_ k2
 have hcase:r=B.length∧r'=B.length+1∨r=B.length+1∧r'=B.length:=by omega
 have hs:∀ {u v:V},look L 7=some u→look L 8=some v→∀ j w,look ((8,v)::(7,u)::L1) j=some w→look L j=some w:=fun h9 h10 j w hj=>by
  by_cases e:j=8
  ·subst e;rw [zr_] at hj;rw [←hj];exact h10
  ·rw [qv_ (fun h=>e h.symm)] at hj
   by_cases e2:j=7
   ·subst e2;rw [zr_] at hj;rw [←hj];exact h9
   ·rw [qv_ (fun h=>e2 h.symm)] at hj
    exact I.keep j w (hsub j w hj)
 rcases hcase with ⟨rfl,rfl⟩|⟨rfl,rfl⟩
 ·have hrows:=rows6 (r:=0) I.base hl g2 k2
  subst hrows
  exact hQ _ _ _ _ hK (sim6 (hs g1 k1) S')
 ·have hrows:=rows6 (r:=0) I.base hl k2 g2
  subst hrows
  exact hQ _ _ _ _ hK (hW.sim _ _ _ _ _ _ _ hqb (sim6 (hs g1 k1) S'))
end Gv
namespace Gv
variable [Glob] [Laid]
def frsN (N:List Gp.Node) (k:Nat):List V:=(List.range N.length).map fun i=>.int .i64 (if i<k then (insB N i:Int) else 0)
theorem x8_ (N:List Gp.Node) (k:Nat):(frsN N k).length=N.length:=by simp [frsN]
theorem qc5_ {N:List Gp.Node} {k i:Nat} (h:i<N.length):(frsN N k)[i]?=some (.int .i64 (if i<k then (insB N i:Int) else 0)):=by
 unfold frsN
 rw [List.getElem?_map,List.getElem?_range h]
 rfl
theorem qui_ (N:List Gp.Node):frsN N 0=List.replicate N.length (.int .i64 0):=by
 unfold frsN
 refine List.ext_getElem? fun i=>?_
 rw [List.getElem?_map,List.getElem?_replicate]
 by_cases h:i<N.length
 ·rw [List.getElem?_range h,if_pos h];rfl
 ·rw [List.getElem?_eq_none (by simpa using h),if_neg h];rfl
theorem qre_ {N:List Gp.Node} {k:Nat} (h:k<N.length):(frsN N k).set k (.int .i64 (insB N k:Int))=frsN N (k+1):=by
 refine List.ext_getElem? fun i=>?_
 rw [List.getElem?_set,x8_]
 by_cases e:k=i
 ·subst e
  rw [if_pos rfl,if_pos h,qc5_ h,if_pos (by omega)]
 ·rw [if_neg e]
  by_cases hi:i<N.length
  ·rw [qc5_ hi,qc5_ hi]
   by_cases h2:i<k
   ·rw [if_pos h2,if_pos (by omega)]
   ·rw [if_neg h2,if_neg (by omega)]
  ·rw [List.getElem?_eq_none (by rw [x8_];omega),List.getElem?_eq_none (by rw [x8_];omega)]
def InsU (N:List Gp.Node) (u:List (List Int × Int)) (n:Nat):Prop:=∀ t (h:t<(allIns N).length),t<n→mget 0 u (keyP (allIns N)[t])=(t:Int)
theorem qoh_ {N:List Gp.Node} {u:List (List Int × Int)} {n:Nat} (hn:(allIns N).Nodup) (h:InsU N u n) {p:Port} (hp:(allIns N)[n]?=some p):InsU N (mput u (keyP p) (n:Int)) (n+1):=fun t ht hlt=>by
 obtain ⟨hl,hp⟩:=List.getElem?_eq_some_iff.1 hp
 rw [w3_]
 by_cases e:t=n
 ·subst e
  rw [if_pos (by rw [hp])]
 ·rw [if_neg,h t ht (by omega)]
  intro e2
  have e3:=qiw_ e2
  rw [←hp] at e3
  have e4:=List.Nodup.idxOf_getElem hn _ hl
  rw [e3,List.Nodup.idxOf_getElem hn _ ht] at e4
  exact e e4
theorem ql8_:callable Tryz.prog 108=true:=by kernel_rfl
def pipesP_P:PSpec:=fun args rows K=>∃ N:List Gp.Node,args=[.agg [.sl nodeV N]]∧rows=[]∧checkG N=0∧∀ u:List (List Int × Int),InsU N u (allIns N).length→K (.tup [.fn 157 [.ptr 0 0 0],.map 2]) [.box [.own 1],.row 1 (frsN N N.length),.mp 47 3 .pair intV u]
noncomputable def pipesP_lib:List (Nat × Spec):=[]
noncomputable def pipesP_fns:List (Nat × FnI):=[]
noncomputable def pipesP_prims:List (Nat × PSpec):=[]
theorem qq4_:EnvOK ⟨Tryz.prog,tys,pipesP_lib,pipesP_fns,pipesP_prims,[(47,[true,true])]⟩:=qf_ mixed0 tys0 .nil .nil .nil (by kernel_rfl)
theorem qhi_:PrimOK Tryz.prog 108 pipesP_P:=by
 refine q3_ qq4_ 6 ql8_ (fi:={fn:=Tryz.f108,hooks:=[15],draws:=[]}) ⟨Tryz.func108,by kernel_rfl,by kernel_rfl⟩ ?_
 rintro args rows K ⟨N,rfl,rfl,hc,hK⟩
 have hg:=gf_of hc
 have hnl:=hg.len.2
 have hsm:=qq_ hc
 repeat' first|(refine fun (hl:_≤MAXL)=>?_)|refine ⟨rfl,?_⟩|fail
 conv=>whnf
 refine ⟨N.length,rfl,by show N.length*8≤_;omega,?_⟩
 repeat' first|refine ⟨Int,intV,?_⟩|fail
 conv=>whnf
 refine qd_ [] (σ:=List (List Int × Int)) (fun _=>[(4,.ptr 0 0 0),(3,.map 2)]) (fun u=>[.box [.own 1],.row 1 (frsN N N.length),.mp 47 3 .pair intV u]) (fun u=>InsU N u (allIns N).length) ?_
 conv=>whnf
 refine ⟨?_,fun u hu=>?_⟩
 ·repeat' first|(refine fun (hl:_≤MAXL)=>?_)|fail
  conv=>whnf
  refine qb_ [3,4,16,17] (σ:=Nat × List (List Int × Int)) (fun s=>[(18,.int .i64 s.1),(5,.int .i64 (insB N s.1:Nat))]) (fun s=>[.box [.sl nodeV N],.row 1 (frsN N s.1),.box [.own 1],.mp 47 3 .pair intV s.2]) (fun s=>s.1≤N.length∧InsU N s.2 (insB N s.1)) (fun s=>N.length-s.1) (0,[]) ?_
  conv=>whnf
  refine ⟨?_,⟨Nat.zero_le _,fun t _ h=>absurd h (by rw [qm5_];omega)⟩,fun s hs=>?_⟩
  ·dsimp only
   rw [qui_,qm5_]
   exact (by (refine qc_ [some 0,some 1,some 2,some 3] rfl rfl ?_ ?_<;>(repeat' first|exact True.intro|exact rfl|exact .inl rfl|exact .inr rfl|refine And.intro ?_ ?_|fail)))
  obtain ⟨j,u⟩:=s
  obtain ⟨hj,hu⟩:=hs
  dsimp only at hj hu
  repeat' first|(refine fun (b:Bool) hb=>?_;cases b<;>first|exact absurd hb (by decide)|exact nfl hb|exact nfr hb|skip)|refine ⟨_,rfl,?_,rfl,?_⟩|refine ⟨rfl,?_⟩|fail
  ·have hjl:j=N.length := by
    have h:=of_decide_eq_false (by assumption:decide ((j:Int)<(N.length:Int))=false)
    omega
   subst hjl
   rw [zt_] at hu
   conv=>whnf
   exact ⟨u,(by (refine qc_ [some 2,some 1,some 3] rfl rfl ?_ ?_<;>(repeat' first|exact True.intro|exact rfl|exact .inl rfl|exact .inr rfl|refine And.intro ?_ ?_|fail))),hu⟩
  ·have h:=of_decide_eq_true (by assumption:decide ((j:Int)<(N.length:Int))=true)
   show j<N.length
   omega
  have hj2:j<N.length:=by
   have h:=of_decide_eq_true (by assumption:decide ((j:Int)<(N.length:Int))=true)
   omega
  have hbs:=zs_ hj2
  have hbm:=xb_ (N:=N) (i:=j+1) (j:=N.length) (by omega) (Nat.le_refl _)
  rw [zt_] at hbm
  have hni:nI N j=N[j].ins.length:=by unfold nI;rw [qt_ hj2]
  refine ⟨j,rfl,by rw [x8_];exact hj2,?_⟩
  conv=>whnf
  refine ⟨by rw [x8_];exact hj2,?_⟩
  conv=>whnf
  rw [qre_ hj2]
  repeat' first|(refine fun (hl:_≤MAXL)=>?_)|fail
  conv=>whnf
  refine qb_ [3,4,5,7,16,17,18,28,29] (σ:=Nat × List (List Int × Int)) (fun s=>[(30,.int .i64 s.1)]) (fun s=>[.box [.sl nodeV N],.row 1 (frsN N (j+1)),.box [.own 1],.mp 47 3 .pair intV s.2,.box (nodeV N[j]).cells]) (fun s=>s.1≤N[j].ins.length∧InsU N s.2 (insB N j+s.1)) (fun s=>N[j].ins.length-s.1) (0,u) ?_
  conv=>whnf
  refine ⟨(by (refine qc_ [some 0,some 1,some 2,some 3,some 4] rfl rfl ?_ ?_<;>(repeat' first|exact True.intro|exact rfl|exact .inl rfl|exact .inr rfl|refine And.intro ?_ ?_|fail))),⟨Nat.zero_le _,hu⟩,fun s hs=>?_⟩
  obtain ⟨k,v⟩:=s
  obtain ⟨hk,hv⟩:=hs
  dsimp only at hk hv
  repeat' first|(refine fun (b:Bool) hb=>?_;cases b<;>first|exact absurd hb (by decide)|exact nfl hb|exact nfr hb|skip)|(refine fun (hl:_≤MAXL)=>?_)|refine And.intro (a:=I64 _) ?_ ?_|refine ⟨_,rfl,?_,rfl,?_⟩|fail
  ·unfold I64;dsimp only;omega
  ·unfold I64;dsimp only;omega
  ·have hkl:k=N[j].ins.length := by
    have h:=of_decide_eq_false (by assumption:decide ((k:Int)<(N[j].ins.length:Int))=false)
    omega
   subst hkl
   conv=>whnf
   refine ⟨(j+1,v),?_,⟨hj2,by show InsU N v (insB N (j+1));rw [hbs,hni];exact hv⟩,by show N.length-(j+1)<N.length-j;omega⟩
   show Wk _ _ _ ([(18,.int .i64 ((j+1:Nat):Int)),(5,.int .i64 ((insB N (j+1):Nat):Int))]++_) _
   rw [hbs,hni,Int.natCast_add]
   exact (by (refine qc_ [some 0,some 1,some 2,some 3] rfl rfl ?_ ?_<;>(repeat' first|exact True.intro|exact rfl|exact .inl rfl|exact .inr rfl|refine And.intro ?_ ?_|fail)))
  all_goals
   have hk2:k<N[j].ins.length:=by
    have h:=of_decide_eq_true (by assumption:decide ((k:Int)<(N[j].ins.length:Int))=true)
    omega
  ·exact hk2
  ·unfold I64;dsimp only;omega
  ·rfl
  ·unfold I64;dsimp only;omega
  have hat:=yz_ hj2 (k:=k) (by omega)
  have hip:inP N j k=N[j].ins[k]:=by
   unfold inP
   rw [qt_ hj2,List.getD_eq_getElem?_getD,List.getElem?_eq_getElem hk2];rfl
  rw [hip] at hat
  conv=>whnf
  refine ⟨(k+1,mput v (keyP N[j].ins[k]) ((insB N j+k:Nat):Int)),?_,⟨hk2,qoh_ hg.nodup hv hat⟩,by show N[j].ins.length-(k+1)<N[j].ins.length-k;omega⟩
  exact (by (refine qc_ [some 0,some 1,some 2,some 3,some 4] rfl rfl ?_ ?_<;>(repeat' first|exact True.intro|exact rfl|exact .inl rfl|exact .inr rfl|refine And.intro ?_ ?_|fail)))
 conv=>whnf
 exact hK u hu
end Gv
namespace Gv
variable [Glob] [Laid]
theorem qi5_:callable Tryz.prog 35=true:=by kernel_rfl
def fileOfR_S:Spec:=fun args K=>∃ (F:List FileS) (n:Bs),args=[.sl fileV F,.str n]∧K (.sl byteV (getN F n))
noncomputable def fileOfR_lib:List (Nat × Spec):=[]
noncomputable def fileOfR_fns:List (Nat × FnI):=[]
noncomputable def fileOfR_prims:List (Nat × PSpec):=[]
theorem qn4_:EnvOK ⟨Tryz.prog,tys,fileOfR_lib,fileOfR_fns,fileOfR_prims,[]⟩:=qf_ mixed0 tys0 .nil .nil .nil rfl
theorem qjm_:Pure Tryz.prog 35 fileOfR_S:=by
 refine qe_ qn4_ 6 (fi:={fn:=Tryz.f35,hooks:=[],draws:=[]}) ⟨Tryz.func35,by kernel_rfl,by kernel_rfl⟩ ?_
 rintro _ K ⟨F,n,rfl,hK⟩
 replace hK:∀ r,r=.sl byteV (getN F n)→K r:=fun r h=>h ▸ hK
 repeat' first|(refine fun (hl:_≤MAXL)=>?_)|fail
 conv=>whnf
 refine qb_ [1,7,8] (σ:=Nat) (fun i=>[(9,.int .i64 i)]) (fun _=>[]) (fun i=>i≤F.length∧getN (F.drop i) n=getN F n) (fun i=>F.length-i) 0 ?_
 conv=>whnf
 refine ⟨(by (refine qa_ ?_;refine Sel4.mk rfl rfl ?_ ?_<;>(repeat' first|exact True.intro|exact rfl|exact .inl rfl|exact .inr rfl|refine And.intro ?_ ?_|fail))),⟨Nat.zero_le _,rfl⟩,fun i hi=>?_⟩
 obtain ⟨hi,hg⟩:=hi
 repeat' first|(refine fun (b:Bool) hb=>?_;cases b<;>first|exact absurd hb (by decide)|exact nfl hb|exact nfr hb|skip)|refine And.intro (a:=I64 _) ?_ ?_|refine ⟨_,rfl,?_,rfl,?_⟩|fail
 ·have hge:¬ (i:Int)<(F.length:Int):=of_decide_eq_false (by assumption)
  have e:F.drop i=[]:=List.drop_eq_nil_of_le (by omega)
  rw [e] at hg
  conv=>whnf
  refine ⟨UInt8,byteV,?_⟩
  refine hK _ ?_
  rw [←hg]
  rfl
 ·have h:=of_decide_eq_true (by assumption:decide ((i:Int)<(F.length:Int))=true)
  show i<F.length
  omega
 ·have hm:F.length≤MAXL:=by assumption
  unfold MAXL at hm
  have h:=of_decide_eq_true (by assumption:decide ((i:Int)<(F.length:Int))=true)
  unfold I64;omega
 all_goals
  have hlt:i<F.length:=by
   have h:=of_decide_eq_true (by assumption:decide ((i:Int)<(F.length:Int))=true)
   omega
  rw [List.drop_eq_getElem_cons hlt] at hg
  unfold getN at hg
  rw [List.find?_cons] at hg
 ·have hn:¬ F[i].name=n:=of_decide_eq_false (by assumption)
  rw [decide_eq_false hn] at hg
  conv=>whnf
  exact ⟨i+1,(by (refine qa_ ?_;refine Sel4.mk rfl rfl ?_ ?_<;>(repeat' first|exact True.intro|exact rfl|exact .inl rfl|exact .inr rfl|refine And.intro ?_ ?_|fail))),⟨hlt,hg⟩,by omega⟩
 ·have hn:F[i].name=n:=of_decide_eq_true (by assumption)
  rw [decide_eq_true hn] at hg
  conv=>whnf
  refine hK _ ?_
  show _=V.sl byteV ((Option.map (·.b) (F.find? fun f=>decide (f.name=n))).getD [])
  rw [←hg]
  rfl
end Gv
namespace Gv
variable [Glob] [Laid]
theorem z4_:callable Tryz.prog 89=true:=by kernel_rfl
def linesOfR_S:Spec:=fun args K=>∃ (b:Bs),args=[.sl byteV b]∧b.length≤1000000000∧K (.sl strV (linesOf b))
noncomputable def linesOfR_lib:List (Nat × Spec):=[(148,splitS_S)]
noncomputable def linesOfR_fns:List (Nat × FnI):=[]
noncomputable def linesOfR_prims:List (Nat × PSpec):=[]
theorem qjs_:EnvOK ⟨Tryz.prog,tys,linesOfR_lib,linesOfR_fns,linesOfR_prims,[]⟩:=qf_ mixed0 tys0 (.cons qaq_ qan_ .nil) .nil .nil rfl
theorem z5_:Pure Tryz.prog 89 linesOfR_S:=by
 refine qe_ qjs_ 6 (fi:={fn:=Tryz.f89,hooks:=[],draws:=[]}) ⟨Tryz.func89,by kernel_rfl,by kernel_rfl⟩ ?_
 rintro _ K ⟨b,rfl,hz,hK⟩
 replace hK:∀ r,r=.sl strV (linesOf b)→K r:=fun r h=>h ▸ hK
 have hsl:=qha_ b
 have hsn:0<(Lib.split b [10]).length:=List.length_pos_iff.2 (wy_ b [10])
 obtain ⟨L,hL⟩:∃ L,Lib.split b [10]=L:=⟨_,rfl⟩
 refine ⟨b,fun _=>rfl,rfl,?_⟩
 refine ⟨b,[10],rfl,⟨by omega,by decide⟩,?_⟩
 rw [hL] at hsl hsn ⊢
 repeat' first|(refine fun (hl:_≤MAXL)=>?_)|refine And.intro (a:=I64 _) ?_ ?_|fail
 ·(first|omega|(unfold I64;omega)|(simp only [List.length_append,List.length_map,List.length_cons,List.length_nil,Nat.mul_one,Int.ofNat_eq_natCast] at *;omega)|(dsimp only at *;omega)|(unfold I64;dsimp only at *;omega)|(unfold I64;grind)|grind)
 refine ⟨L.length-1,by omega,by omega,?_⟩
 repeat' first|(refine fun (b:Bool) hb=>?_;cases b<;>first|exact absurd hb (by decide)|exact nfl hb|exact nfr hb|skip)|(refine fun (hl:_≤MAXL)=>?_)|refine And.intro (a:=I64 _) ?_ ?_|refine ⟨(fun _=>rfl),?_⟩|refine ⟨rfl,?_⟩|fail
 ·have h:¬ L[L.length-1]=[]:=of_decide_eq_false (by assumption)
  conv=>whnf
  refine hK _ ?_
  rw [←hsl]
  unfold dropE
  rw [if_neg (by rw [List.getLast?_eq_getElem?,List.getElem?_eq_getElem (by omega)];simpa using h)]
 ·(first|omega|(unfold I64;omega)|(simp only [List.length_append,List.length_map,List.length_cons,List.length_nil,Nat.mul_one,Int.ofNat_eq_natCast] at *;omega)|(dsimp only at *;omega)|(unfold I64;dsimp only at *;omega)|(unfold I64;grind)|grind)
 have h:L[L.length-1]=[]:=of_decide_eq_true (by assumption)
 refine ⟨L.length-1,by omega,by omega,?_⟩
 skip
 refine hK _ ?_
 rw [←hsl]
 unfold dropE
 rw [if_pos (by rw [List.getLast?_eq_getElem?,List.getElem?_eq_getElem (by omega),h]),List.dropLast_eq_take]
end Gv
namespace Gv
variable [Glob] [Laid]
theorem qq7_:callable Tryz.prog 146=true:=by kernel_rfl
def joinS_S:Spec:=fun args K=>∃ (l:List Bs) (sep:Bs),args=[.sl strV l,.str sep]∧(l.length≤140737488355328∧(Lib.join l sep).length≤140737488355328)∧K (.str (Lib.join l sep))
theorem qpp_:Pure Tryz.prog 146 joinS_S:=by
 intro w m args us K hm hg hv hT
 obtain ⟨l,sep,rfl,⟨h1,h2⟩,hK⟩:=hT
 obtain ⟨a,b,rfl,ha,hb⟩:=args2 hv.1 hv.2
 obtain ⟨p,c,rfl,hlc,hc,hp⟩:=qm2_ ha hm
 obtain ⟨rfl,-⟩:=z1_ hb
 by_cases hl:l=[]
 ·subst hl
  refine (Tryz.strings_Join_none p c (ba sep) w).mono fun e w' ⟨he,hw⟩=>?_
  subst hw
  exact ⟨_,_,he,Bel.refl _ _,hK,.str (s:=[]) (Nat.zero_le _)⟩
 ·obtain ⟨bk,o,rfl,hbk,hx,hx2⟩:=hp hl
  have e1:(l.map ba).map (fun x=>x.data.toList)=l:=by
   rw [List.map_map]
   conv=>rhs;rw [←List.map_id l]
   rfl
  have e2:(l.map ba).length=l.length:=List.length_map ..
  have:=Tryz.strings_Join bk o c (l.map ba) (ba sep) w (fun j x hj=>by
   rw [List.getElem?_map] at hj
   obtain ⟨y,hy,rfl⟩:=Option.map_eq_some_iff.1 hj
   exact hx j y hy) hbk (by rw [e2];exact h1) (by rw [e2];exact hlc) (by rw [e1];exact h2)
  rw [e1,e2] at this
  refine this.mono fun e w' ⟨he,hw⟩=>?_
  exact ⟨_,_,he,Bel.of_below hw,hK,.str (by have:=h2;unfold MAXL;show (Lib.join l sep).length≤_;omega)⟩
end Gv
namespace Gv
variable [Glob] [Laid]
theorem xu_:callable Tryz.prog 87=true:=by kernel_rfl
def bytesOfR_S:Spec:=fun args K=>∃ (l:List Bs),args=[.sl strV l]∧(put l).length≤1000000000∧K (.sl byteV (put l))
noncomputable def bytesOfR_lib:List (Nat × Spec):=[(146,joinS_S)]
noncomputable def bytesOfR_fns:List (Nat × FnI):=[]
noncomputable def bytesOfR_prims:List (Nat × PSpec):=[]
theorem qiz_:EnvOK ⟨Tryz.prog,tys,bytesOfR_lib,bytesOfR_fns,bytesOfR_prims,[]⟩:=qf_ mixed0 tys0 (.cons qq7_ qpp_ .nil) .nil .nil rfl
theorem xn_:Pure Tryz.prog 87 bytesOfR_S:=by
 refine qe_ qiz_ 6 (fi:={fn:=Tryz.f87,hooks:=[],draws:=[]}) ⟨Tryz.func87,by kernel_rfl,by kernel_rfl⟩ ?_
 rintro _ K ⟨l,rfl,hz,hK⟩
 replace hK:∀ r,r=.sl byteV (put l)→K r:=fun r h=>h ▸ hK
 have hj:=qir_ l
 have hjl:(Lib.join l [10]).length≤(put l).length:=by
  rw [←hj]
  split
  ·simp
  ·exact Nat.le_refl _
 have hll:=vx_ (l:=l) (n:=1000000000) hz
 refine ⟨l,[10],rfl,⟨by omega,by omega⟩,?_⟩
 repeat' first|(refine fun (b:Bool) hb=>?_;cases b<;>first|exact absurd hb (by decide)|exact nfl hb|exact nfr hb|skip)|(refine fun (hl:_≤MAXL)=>?_)|refine And.intro (a:=_≤140737488355328) ?_ ?_|refine Opt.a ?_|fail
 ·omega
 ·conv=>whnf
  refine hK _ ?_
  rw [←hj,if_neg (by have:=of_decide_eq_false (by assumption:decide ((0:Int)<(l.length:Int))=false);omega)]
 all_goals have hp:0<l.length:=by have:=of_decide_eq_true (by assumption:decide ((0:Int)<(l.length:Int))=true);omega
 rw [if_pos hp] at hj
 conv=>whnf
 refine ⟨by show (Lib.join l [10]).length+1≤MAXL;unfold MAXL;omega,?_⟩
 repeat' first|refine And.intro (a:=_≤140737488355328) ?_ ?_|refine Opt.a ?_|fail
 ·show (Lib.join l [10]++[10]).length≤140737488355328
  rw [hj]
  omega
 conv=>whnf
 refine hK _ ?_
 show V.sl byteV (Lib.join l [10]++[10])=_
 rw [hj]
end Gv
namespace Gv
variable [Glob] [Laid]
theorem qkx_:callable Tryz.prog 94=true:=by kernel_rfl
def wholeR_S:Spec:=fun args K=>∃ b:Bs,args=[.sl byteV b]∧b.length≤100000000∧K (.sl byteV (whole b))
noncomputable def wholeR_lib:List (Nat × Spec):=[(89,linesOfR_S),(87,bytesOfR_S)]
noncomputable def wholeR_fns:List (Nat × FnI):=[]
noncomputable def wholeR_prims:List (Nat × PSpec):=[]
theorem qrl_:EnvOK ⟨Tryz.prog,tys,wholeR_lib,wholeR_fns,wholeR_prims,[]⟩:=qf_ mixed0 tys0 (.cons z4_ z5_ (.cons xu_ xn_ .nil)) .nil .nil rfl
theorem qn2_:Pure Tryz.prog 94 wholeR_S:=by
 refine qe_ qrl_ 6 (fi:={fn:=Tryz.f94,hooks:=[],draws:=[]}) ⟨Tryz.func94,by kernel_rfl,by kernel_rfl⟩ ?_
 rintro _ K ⟨b,rfl,hb,hK⟩
 replace hK:∀ r,r=.sl byteV (whole b)→K r:=fun r h=>h ▸ hK
 have h1:=qar_ b
 skip
 refine ⟨b,rfl,by omega,?_⟩
 skip
 refine ⟨linesOf b,rfl,by show (whole b).length≤1000000000;omega,?_⟩
 skip
 exact hK _ rfl
end Gv
namespace Gv
variable [Glob] [Laid]
theorem qsa_ {a b c:Nat} (h:a*b≤c):(a:Int)*(b:Int)≤(c:Int):=by
 rw [←Int.natCast_mul]
 omega
theorem qtz_ (k m n:Nat):((k:Int)*(m:Int)) / (n:Int)=((k*m / n:Nat):Int):=by
 rw [←Int.natCast_mul,←Int.natCast_ediv]
theorem qgh_:callable Tryz.prog 158=true:=by kernel_rfl
def splitOfR_S:Spec:=fun args K=>∃ (b:Bs) (n:Nat),args=[.sl byteV b,.int .i64 n]∧(b.length≤500000000∧1≤n∧n≤1000)∧K (.sl blV (splitLines (linesOf b) n))
noncomputable def splitOfR_lib:List (Nat × Spec):=[(89,linesOfR_S)]
noncomputable def splitOfR_fns:List (Nat × FnI):=[]
noncomputable def splitOfR_prims:List (Nat × PSpec):=[]
theorem qj3_:EnvOK ⟨Tryz.prog,tys,splitOfR_lib,splitOfR_fns,splitOfR_prims,[]⟩:=qf_ mixed0 tys0 (.cons z4_ z5_ .nil) .nil .nil rfl
set_option maxHeartbeats 40000000 in
theorem qg3_:Pure Tryz.prog 158 splitOfR_S:=by
 refine qe_ qj3_ 6 (fi:={fn:=Tryz.f158,hooks:=[11],draws:=[]}) ⟨Tryz.func158,by kernel_rfl,by kernel_rfl⟩ ?_
 rintro _ K ⟨b,n,rfl,⟨hb,hn1,hn2⟩,hK⟩
 replace hK:∀ r,r=.sl blV (splitLines (linesOf b) n)→K r:=fun r h=>h ▸ hK
 have hll:=q4_ b
 have hpl:=qar_ b
 have hel:=xh_ b
 unfold whole at hpl
 refine ⟨b,rfl,by omega,?_⟩
 obtain ⟨L,hL⟩:∃ L,linesOf b=L:=⟨_,rfl⟩
 rw [hL] at hll hpl hel hK ⊢
 repeat' first|refine ⟨rfl,?_⟩|fail
 refine ⟨n,rfl,?_,?_⟩
 ·show n*24≤140737488355328
  omega
 skip
 conv=>whnf
 refine qd_ [6] (σ:=Nat × Option Bs) (fun _=>[]) (fun s=>[.row 1 (sofFin L n s.1 s.2)]) (fun s=>sofI L n L.length s.1 s.2) ?_
 conv=>whnf
 refine ⟨?_,fun s hs=>?_⟩
 rotate_left
 ·skip
  refine ⟨Bs,blV,splitLines L n,qju_ hs,?_⟩
  exact hK _ rfl
 repeat' first|(refine fun (hl:_≤MAXL)=>?_)|fail
 conv=>whnf
 refine qb_ [1,5,6,14,15] (σ:=Nat × Nat × Option Bs) (fun s=>[(16,.int .i64 s.1),(7,.int .i64 s.2.1)]) (fun s=>[.rowq 1 (sofEls L n s.2.1 s.2.2),sofRow s.2.2]) (fun s=>sofI L n s.1 s.2.1 s.2.2) (fun s=>L.length-s.1) (0,0,none) ?_
 conv=>whnf
 refine ⟨?_,⟨Nat.zero_le _,hn1,by simp,by simp,by simp [put]⟩,fun s hs=>?_⟩
 ·refine qc_ [some 0,some 0] rfl rfl ⟨⟨rfl,qq8_ hn1⟩,trivial,trivial⟩ ?_
  (repeat' first|exact True.intro|exact rfl|exact .inl rfl|exact .inr rfl|refine And.intro ?_ ?_|fail)
 obtain ⟨i,k,c⟩:=s
 dsimp only at hs
 have hsi:=hs.1
 have hsk:=hs.2.1
 repeat' first|(refine fun (b:Bool) hb=>?_;cases b<;>first|exact absurd hb (by decide)|exact nfl hb|exact nfr hb|skip)|refine ⟨_,rfl,?_,rfl,?_⟩|fail
 ·have h:=of_decide_eq_false (by assumption:decide ((i:Int)<(L.length:Int))=false)
  have e:i=L.length:=by omega
  subst e
  refine ⟨(k,c),?_,hs⟩
  cases c with
  | none =>
   refine qc_ [some 0] rfl rfl ⟨⟨rfl,rfl,qbj_ L n k none⟩,trivial⟩ ?_
   (repeat' first|exact True.intro|exact rfl|exact .inl rfl|exact .inr rfl|refine And.intro ?_ ?_|fail)
  | some b =>
   refine (wk_fz 1 rfl (LeL.refl _)).trans ((qr4_ 0 1 k 1 rfl rfl (yc_ L n k (some b))).trans ?_)
   refine qc_ [some 0] rfl rfl ⟨⟨rfl,zy_ L n k (some b) (blV b),?_⟩,trivial⟩ ?_
   ·rw [show (sofEls L n k (some b)).set k (.sl byteV b)=sofFin L n k (some b) from zy_ L n k (some b) (blV b)]
    exact qbj_ L n k (some b)
   ·(repeat' first|exact True.intro|exact rfl|exact .inl rfl|exact .inr rfl|refine And.intro ?_ ?_|fail)
 ·have h:=of_decide_eq_true (by assumption:decide ((i:Int)<(L.length:Int))=true)
  show i<L.length
  omega
 have hlt:i<L.length:=by
  have h:=of_decide_eq_true (by assumption:decide ((i:Int)<(L.length:Int))=true)
  omega
 conv=>whnf
 refine qb_ [1,5,6,8,9,14,15,16] (σ:=Nat × Option Bs) (fun s=>[(7,.int .i64 s.1)]) (fun s=>[.rowq 1 (sofEls L n s.1 s.2),sofRow s.2]) (fun s=>sofI L n i s.1 s.2) (fun s=>n-s.1) (k,c) ?_
 conv=>whnf
 refine ⟨?_,hs,fun s hs=>?_⟩
 ·cases c with
  | none =>
   refine qc_ [some 0,some 0] rfl rfl ⟨⟨rfl,qku_ L n k⟩,trivial,trivial⟩ ?_
   (repeat' first|exact True.intro|exact rfl|exact .inl rfl|exact .inr rfl|refine And.intro ?_ ?_|fail)
  | some b =>
   refine qc_ [some 0,some 1] rfl rfl ⟨⟨rfl,qld_ L n k b b rfl⟩,rfl,trivial⟩ ?_
   (repeat' first|exact True.intro|exact rfl|exact .inl rfl|exact .inr rfl|refine And.intro ?_ ?_|fail)
 clear hsi hsk
 obtain ⟨k,c⟩:=s
 dsimp only at hs
 have hsk:=hs.2.1
 have hml:(k+1)*L.length≤1000*1000000000:=Nat.mul_le_mul (show k+1≤1000 by omega) (show L.length≤1000000000 by omega)
 have hml2:((k:Int)+1)*(L.length:Int)≤((1000000000000:Nat):Int):=qsa_ hml
 have hml0:0≤((k:Int)+1)*L.length:=Int.mul_nonneg (by omega) (by omega)
 have hdv:=qtz_ (k+1) L.length n
 repeat' first|(refine fun (hl:_≤MAXL)=>?_)|refine And.intro (a:=I64 _) ?_ ?_|fail
 ·dsimp only
  unfold I64
  omega
 ·dsimp only
  unfold I64
  omega
 refine ⟨⟨hml0,by dsimp only;omega,by omega⟩,?_⟩
 repeat' first|(refine fun (b:Bool) hb=>?_;cases b<;>first|exact absurd hb (by decide)|exact nfl hb|exact nfr hb|skip)|refine And.intro (a:=I64 _) ?_ ?_|refine ⟨rfl,?_⟩|fail
 ·
  have h:¬ ((k:Int)+1)*(L.length:Int) / (n:Int)≤(i:Int):=of_decide_eq_false (by assumption)
  have hik:i<(k+1)*L.length / n:=by
   have e:((k:Int)+1)*(L.length:Int) / (n:Int)=(((k+1)*L.length / n:Nat):Int):=hdv
   omega
  have hnx:=qnd_ hs hlt hik
  have hLi:L[i].length≤b.length:=hel _ (List.getElem_mem hlt)
  have hlen:k<(sofEls L n k c).length:=by rw [qi1_ hsk];exact hsk
  refine ⟨k,rfl,hlen,?_⟩
  cases c with
  | none =>
   refine ⟨_,yc_ L n k none,?_⟩
   refine ⟨by show L[i].length+1≤MAXL;unfold MAXL;omega,?_⟩
   repeat' first|refine And.intro (a:=_≤140737488355328) ?_ ?_|refine ⟨rfl,?_⟩|fail
   ·show (List.map byteV (L[i]++[10])).length*1≤140737488355328
    rw [List.length_map,List.length_append]
    simp only [List.length_cons,List.length_nil]
    omega
   refine ⟨k,rfl,hlen,?_⟩
   conv=>whnf
   refine ⟨hlen,?_⟩
   repeat' first|refine And.intro (a:=I64 _) ?_ ?_|fail
   ·dsimp only
    unfold I64
    omega
   refine ⟨(i+1,k,some (L[i]++[10])),?_,hnx,by dsimp only;omega⟩
   refine qc_ [some 0,some 2] rfl rfl ⟨⟨rfl,qhw_ L n k none (some (L[i]++[10])) (v:=.own 2) (v':=.own 1) rfl rfl rfl rfl⟩,rfl,trivial⟩ ?_
   (repeat' first|exact True.intro|exact rfl|exact .inl rfl|exact .inr rfl|refine And.intro ?_ ?_|fail)
  | some d =>
   have hd:d.length≤1000000001:=by
    have h5:=hs.2.2.2.2
    have:d=put ((L.take i).drop (k*L.length / n)):=h5
    rw [this]
    exact Nat.le_trans (qcy_ ((List.drop_sublist _ _).trans (List.take_sublist _ _))) (by omega)
   refine ⟨_,yc_ L n k (some d),?_⟩
   refine ⟨by show L[i].length+1≤MAXL;unfold MAXL;omega,?_⟩
   repeat' first|refine And.intro (a:=_≤140737488355328) ?_ ?_|refine ⟨rfl,?_⟩|fail
   ·show ((List.map byteV d).length+(List.map byteV (L[i]++[10])).length)*1≤140737488355328
    rw [List.length_map,List.length_map,List.length_append]
    simp only [List.length_cons,List.length_nil]
    omega
   refine ⟨k,rfl,hlen,?_⟩
   conv=>whnf
   refine ⟨hlen,?_⟩
   repeat' first|refine And.intro (a:=I64 _) ?_ ?_|fail
   ·dsimp only
    unfold I64
    omega
   refine ⟨(i+1,k,some (d++(L[i]++[10]))),?_,hnx,by dsimp only;omega⟩
   refine qc_ [some 0,some 2] rfl rfl ⟨⟨rfl,qhw_ L n k (some d) (some (d++(L[i]++[10]))) (v:=.own 2) (v':=.own 1) rfl rfl rfl rfl⟩,?_,trivial⟩ ?_
   ·show Row.row 1 _=Row.row 1 _
    rw [List.map_append]
   ·(repeat' first|exact True.intro|exact rfl|exact .inl rfl|exact .inr rfl|refine And.intro ?_ ?_|fail)
 ·dsimp only
  unfold I64
  omega
 ·have h:((k:Int)+1)*(L.length:Int) / (n:Int)≤(i:Int):=of_decide_eq_true (by assumption)
  have hik:(k+1)*L.length / n≤i:=by
   have e:((k:Int)+1)*(L.length:Int) / (n:Int)=(((k+1)*L.length / n:Nat):Int):=hdv
   omega
  obtain ⟨hn1,hn2⟩:=qm0_ hs hlt hik
  refine ⟨(k+1,none),?_,hn2,by dsimp only;omega⟩
  cases c with
  | none =>
   refine qc_ [some 0,some 0] rfl rfl ⟨⟨rfl,?_⟩,trivial,trivial⟩ ?_
   ·have e:=qas_ (L:=L) hn2.2.1
    rw [←hn1] at e
    rw [←e]
    refine qer_ (xg_ fun x hx w hw=>?_) (yd_ ⟨rfl,trivial⟩ (xg_ fun x hx w hw=>?_))
    ·obtain ⟨j,-,rfl⟩:=List.mem_map.1 hx
     simp [blV,V.cells] at hw
     subst hw;rfl
    ·rw [List.eq_of_mem_replicate hx] at hw
     simp [V.cells] at hw
     subst hw;rfl
   ·(repeat' first|exact True.intro|exact rfl|exact .inl rfl|exact .inr rfl|refine And.intro ?_ ?_|fail)
  | some d =>
   refine (wk_fz 1 rfl (LeL.refl _)).trans ((qr4_ 0 1 k 1 rfl rfl (yc_ L n k (some d))).trans ?_)
   refine qc_ [some 0,some 0] rfl rfl ⟨⟨rfl,?_⟩,trivial,trivial⟩ ?_
   ·have e:=qas_ (L:=L) hn2.2.1
    rw [←hn1] at e
    rw [←e]
    show wkEls _ ((sofEls L n k (some d)).set k (blV d)) _
    rw [zy_]
    refine xg_ fun x hx w hw=>?_
    simp only [List.mem_append,List.mem_map,List.mem_cons] at hx
    rcases hx with ⟨j,-,rfl⟩|rfl|hx
    ·simp [blV,V.cells] at hw
     subst hw;rfl
    ·simp [blV,V.cells] at hw
     subst hw;rfl
    ·rw [List.eq_of_mem_replicate hx] at hw
     simp [V.cells] at hw
     subst hw;rfl
   ·(repeat' first|exact True.intro|exact rfl|exact .inl rfl|exact .inr rfl|refine And.intro ?_ ?_|fail)
end Gv
namespace Gv
variable [Glob] [Laid] [Nums]
theorem qdx_:callable Tryz.prog 88=true:=by kernel_rfl
def madeR_S:Spec:=fun args K=>∃ (c:Cmd) (l:List Bs),args=[cmdV c,.sl strV l]∧(checkCmd c=0∧l.length≤900000000∧∀ s∈l,s.length≤900000000)∧K (.sl strV (linesC c l))
noncomputable def madeR_lib:List (Nat × Spec):=[(147,containsS_S),(148,splitS_S),(150,itoa_S)]
noncomputable def madeR_fns:List (Nat × FnI):=[(149,{fn:=Tryz.f149,hooks:=[],draws:=[]})]
noncomputable def madeR_prims:List (Nat × PSpec):=[(152,sortS_P)]
theorem qt0_:EnvOK ⟨Tryz.prog,tys,madeR_lib,madeR_fns,madeR_prims,[]⟩:=qf_ mixed0 tys0 (.cons wp_ wo_ (.cons qaq_ qan_ (.cons w9_ qba_ .nil))) (.cons (by kernel_rfl) ⟨Tryz.func149,by kernel_rfl,by kernel_rfl⟩ .nil) (.cons qcl_ .nil) rfl
set_option maxHeartbeats 40000000 in
theorem qds_:Pure Tryz.prog 88 madeR_S:=by
 refine qe_ qt0_ 6 (fi:={fn:=Tryz.f88,hooks:=[40],draws:=[(16,[0,0,3,7,0,16,48,127])]}) ⟨Tryz.func88,by kernel_rfl,by kernel_rfl⟩ ?_
 rintro _ K ⟨c,l,rfl,⟨hc,hlc,hs⟩,hK⟩
 replace hK:∀ r,r=.sl strV (linesC c l)→K r:=fun r h=>h ▸ hK
 have hkind:1≤c.kind∧c.kind≤10:=by
  unfold checkCmd at hc
  grind
 repeat' first|(refine fun (hl:_≤MAXL)=>?_)|fail
 conv=>whnf
 refine qb_ [1,2,14,15] (σ:=Nat × List Bs) (fun s=>[(16,.int .i64 s.1),(5,.own 1)]) (fun s=>[.box (cmdV c).cells,.row 1 (s.2.map strV)]) (fun s=>s.2=accM c l s.1∧s.1≤l.length) (fun s=>l.length-s.1) (0,[]) ?_
 conv=>whnf
 refine ⟨(by (refine qa_ ?_;refine Sel4.mk rfl rfl ?_ ?_<;>(repeat' first|exact True.intro|exact rfl|exact .inl rfl|exact .inr rfl|refine And.intro ?_ ?_|fail))),⟨(qul_ c l).symm,Nat.zero_le _⟩,fun s hs=>?_⟩
 obtain ⟨i,out⟩:=s
 obtain ⟨ho,hi⟩:=hs
 dsimp only at ho hi
 have hol:out.length≤900000000:=by rw [ho];exact Nat.le_trans (qqi_ c l i hi) hlc
 repeat' first|refine ⟨_,_,_,LeL.refl _,?_⟩|(refine fun (b:Bool) hb=>?_;cases b<;>first|exact absurd hb (by decide)|exact nfl hb|exact nfr hb|skip)|(refine fun (hl:_≤MAXL)=>?_)|refine ⟨_,rfl,?_,rfl,?_⟩|fail
 ·
  have h:¬ (i:Int)<(l.length:Int):=of_decide_eq_false (by assumption)
  have e:i=l.length:=by omega
  have h6:c.kind≠6:=of_decide_eq_false (by assumption)
  have h8:c.kind≠8:=of_decide_eq_false (by assumption)
  rw [e,qpv_ h6 h8] at ho
  conv=>whnf
  exact hK _ (by rw [←ho])
 ·have h8:c.kind=8:=of_decide_eq_true (by assumption)
  refine ⟨l.length,rfl,⟨by omega,by omega⟩,?_⟩
  skip
  refine ⟨Bs,strV,[Lib.itoa l.length],LeL.refl _,?_⟩
  refine hK _ ?_
  unfold linesC
  rw [if_neg (by omega),if_neg (by omega),if_pos h8]
 ·have h6:c.kind=6:=of_decide_eq_true (by assumption)
  skip
  have h:¬ (i:Int)<(l.length:Int):=of_decide_eq_false (by assumption)
  have e:i=l.length:=by omega
  have ho6:out=l:=by rw [ho,e];unfold accM;rw [if_pos h6,List.take_length]
  refine .inl ⟨out,rfl,rfl,by omega,?_⟩
  repeat' first|refine ⟨_,_,_,LeL.refl _,?_⟩|(refine fun (b:Bool) hb=>?_;cases b<;>first|exact absurd hb (by decide)|exact nfl hb|exact nfr hb|skip)|(refine fun (hl:_≤MAXL)=>?_)|fail
  ·refine hK _ ?_
   unfold linesC
   rw [if_pos h6,ho6]
  ·have h8:c.kind=8:=of_decide_eq_true (by assumption)
   omega
 ·have h:=of_decide_eq_true (by assumption:decide ((i:Int)<(l.length:Int))=true)
  show i<l.length
  omega
 have hlt:i<l.length:=by
  have h:=of_decide_eq_true (by assumption:decide ((i:Int)<(l.length:Int))=true)
  omega
 have hsi:=hs _ (List.getElem_mem hlt)
 conv=>whnf
 refine qd_ [1,2,5,14,15,16] (σ:=Bs × Bool) (fun s=>[(7,.str s.1),(8,.bool s.2)]) (fun _=>[.box (cmdV c).cells,.row 1 (out.map strV)]) (fun s=>accM c l (i+1)=out++(if s.2=true then [s.1] else [])) ?_
 conv=>whnf
 refine ⟨?_,fun s hst=>?_⟩
 ·have hk10:c.kind=1∨c.kind=2∨c.kind=3∨c.kind=4∨c.kind=5∨c.kind=6∨c.kind=7∨c.kind=8∨c.kind=9∨c.kind=10:=by omega
  obtain ⟨ck,cw,cn⟩:=c
  dsimp only at hk10
  rcases hk10 with rfl|rfl|rfl|rfl|rfl|rfl|rfl|rfl|rfl|rfl
  ·repeat' first|(refine fun (b:Bool) hb=>?_;cases b<;>first|exact absurd hb (by decide)|exact nfl hb|exact nfr hb|skip)|fail
   refine ⟨l[i],cw,rfl,by omega,?_⟩
   skip
   refine ⟨(l[i],Lib.contains l[i] cw),(by (refine qa_ ?_;refine Sel4.mk rfl rfl ?_ ?_<;>(repeat' first|exact True.intro|exact rfl|exact .inl rfl|exact .inr rfl|refine And.intro ?_ ?_|fail))),?_⟩
   rw [xd_ hlt (by show (1:Int)<6;decide),←ho]
   cases h:Lib.contains l[i] cw<;>simp [oneC,h]
  ·repeat' first|(refine fun (b:Bool) hb=>?_;cases b<;>first|exact absurd hb (by decide)|exact nfl hb|exact nfr hb|skip)|fail
   refine ⟨l[i],cw,rfl,by omega,?_⟩
   skip
   refine ⟨(l[i],!Lib.contains l[i] cw),(by (refine qa_ ?_;refine Sel4.mk rfl rfl ?_ ?_<;>(repeat' first|exact True.intro|exact rfl|exact .inl rfl|exact .inr rfl|refine And.intro ?_ ?_|fail))),?_⟩
   rw [xd_ hlt (by show (2:Int)<6;decide),←ho]
   cases h:Lib.contains l[i] cw<;>simp [oneC,h]
  ·obtain ⟨x,y,hw⟩:=word2 hc rfl
   dsimp only at hw
   subst hw
   repeat' first|(refine fun (b:Bool) hb=>?_;cases b<;>first|exact absurd hb (by decide)|exact nfl hb|exact nfr hb|skip)|(refine fun (hl:_≤MAXL)=>?_)|refine And.intro (a:=_≤140737488355328) ?_ ?_|refine Opt.b ?_|fail
   ·exact Nat.le_trans hsi (by decide)
   skip
   conv=>whnf
   refine qb_ [1,2,5,8,9,14,15,16,41] (σ:=Nat × Bs) (fun s=>[(42,.int .i64 s.1),(9,.own 2)]) (fun s=>[.box (cmdV ⟨3,[x,y],cn⟩).cells,.row 1 (out.map strV),.row 1 (s.2.map byteV)]) (fun s=>s.2=(l[i].take s.1).map (fun z=>if z=x then y else z)++l[i].drop s.1∧s.1≤l[i].length) (fun s=>l[i].length-s.1) (0,l[i]) ?_
   conv=>whnf
   refine ⟨(by (refine qa_ ?_;refine Sel4.mk rfl rfl ?_ ?_<;>(repeat' first|exact True.intro|exact rfl|exact .inl rfl|exact .inr rfl|refine And.intro ?_ ?_|fail))),⟨by simp,Nat.zero_le _⟩,fun s hs=>?_⟩
   obtain ⟨k,d⟩:=s
   obtain ⟨hd,hk⟩:=hs
   dsimp only at hd hk
   have hdl:d.length=l[i].length:=by rw [hd];simp;omega
   repeat' first|(refine fun (b:Bool) hb=>?_;cases b<;>first|exact absurd hb (by decide)|exact nfl hb|exact nfr hb|skip)|refine ⟨_,⟨rfl,rfl⟩,?_⟩|fail
   ·have hge:¬ (k:Int)<((l[i].map byteV).length:Int):=of_decide_eq_false (by assumption)
    rw [List.length_map] at hge
    have ek:k=l[i].length:=by omega
    refine ⟨d,rfl,rfl,?_⟩
    skip
    refine ⟨(d,true),(by (refine qa_ ?_;refine Sel4.mk rfl rfl ?_ ?_<;>(repeat' first|exact True.intro|exact rfl|exact .inl rfl|exact .inr rfl|refine And.intro ?_ ?_|fail))),?_⟩
    rw [xd_ hlt (by show (3:Int)<6;decide),←ho,hd,ek]
    rw [one_3]
    simp
   have hkl:k<l[i].length:=by
    have h:=of_decide_eq_true (by assumption:decide ((k:Int)<((l[i].map byteV).length:Int))=true)
    rw [List.length_map] at h
    omega
   have hkd:k<d.length:=by omega
   have gk:(List.map byteV d)[k]?=some (byteV d[k]):=by rw [List.getElem?_map,List.getElem?_eq_getElem hkd];rfl
   have edk:d[k]=l[i][k]:=mp_eq hkl hd hkd
   have hnx:=qvg_ (fun z=>if z=x then y else z) hkl
   rw [←hd,←edk] at hnx
   conv=>whnf
   refine ⟨_,⟨rfl,k,rfl,by simpa using hkd,⟨rfl,rfl⟩⟩,?_⟩
   repeat' first|exact True.intro|refine And.intro (a:=chkPast _ _ _ _ _ _ _ _) ?_ ?_|fail
   conv=>whnf
   refine ⟨_,⟨_,gk,⟨rfl,rfl⟩⟩,?_⟩
   repeat' first|exact True.intro|refine ⟨_,⟨rfl,rfl⟩,?_⟩|refine And.intro (a:=chkPast _ _ _ _ _ _ _ _) ?_ ?_|fail
   conv=>whnf
   refine ⟨_,⟨0,rfl,(by show 0<2;decide),rfl,rfl⟩,?_⟩
   repeat' first|exact True.intro|(refine fun (b:Bool) hb=>?_;cases b<;>first|exact absurd hb (by decide)|exact nfl hb|exact nfr hb|skip)|refine And.intro (a:=I64 _) ?_ ?_|refine ⟨_,⟨rfl,rfl⟩,?_⟩|refine And.intro (a:=chkPast _ _ _ _ _ _ _ _) ?_ ?_|refine ⟨_,rfl,?_,rfl,?_⟩|fail
   ·unfold I64
    dsimp only
    omega
   ·have hne:¬ ((d[k].toNat:Int)=(x.toNat:Int)):=of_decide_eq_false (by assumption)
    have hne2:¬ d[k]=x:=fun e=>hne (by rw [e])
    refine ⟨(k+1,d),(by (refine qa_ ?_;refine Sel4.mk rfl rfl ?_ ?_<;>(repeat' first|exact True.intro|exact rfl|exact .inl rfl|exact .inr rfl|refine And.intro ?_ ?_|fail))),⟨?_,hkl⟩,?_⟩
    ·show d=_
     rw [hnx,if_neg hne2,List.set_getElem_self]
    ·show l[i].length-(k+1)<l[i].length-k
     omega
   ·show 2≤2
    decide
   have heq:((d[k].toNat:Int)=(x.toNat:Int)):=of_decide_eq_true (by assumption)
   have heq2:d[k]=x:=UInt8.toNat_inj.1 (by omega)
   rw [if_pos heq2] at hnx
   refine ⟨k,rfl,by simpa using hkd,?_⟩
   conv=>whnf
   refine ⟨by simpa using hkd,?_⟩
   repeat' first|refine And.intro (a:=I64 _) ?_ ?_|fail
   ·unfold I64
    dsimp only
    omega
   refine ⟨(k+1,d.set k y),?_,⟨?_,hkl⟩,?_⟩
   rotate_left
   ·show d.set k y=_
    rw [hnx]
   ·show l[i].length-(k+1)<l[i].length-k
    omega
   (refine qa_ ?_;refine Sel4.mk rfl rfl ?_ ?_<;>(repeat' first|exact True.intro|exact rfl|exact .inl rfl|exact .inr rfl|refine And.intro ?_ ?_|fail))
   show Row.row 1 _=Row.row 1 _
   simp [List.map_set]
   rfl
  ·have hn1:1≤cn∧cn≤1000 := by
    unfold checkCmd useN at hc
    grind
   have hsn:0<(Lib.split l[i] [32]).length:=List.length_pos_iff.2 (wy_ l[i] [32])
   repeat' first|(refine fun (b:Bool) hb=>?_;cases b<;>first|exact absurd hb (by decide)|exact nfl hb|exact nfr hb|skip)|fail
   refine ⟨l[i],[32],rfl,⟨by omega,by decide⟩,?_⟩
   repeat' first|(refine fun (b:Bool) hb=>?_;cases b<;>first|exact absurd hb (by decide)|exact nfl hb|exact nfr hb|skip)|(refine fun (hl:_≤MAXL)=>?_)|refine And.intro (a:=I64 _) ?_ ?_|fail
   ·have hle:¬ cn≤((Lib.split l[i] [32]).length:Int):=of_decide_eq_false (by assumption)
    refine ⟨([],true),(by (refine qa_ ?_;refine Sel4.mk rfl rfl ?_ ?_<;>(repeat' first|exact True.intro|exact rfl|exact .inl rfl|exact .inr rfl|refine And.intro ?_ ?_|fail))),?_⟩
    rw [xd_ hlt (by show (4:Int)<6;decide),←ho]
    have h2:((Lib.split l[i] [32]).length:Int)<cn:=by omega
    simp [oneC,h2]
   ·unfold I64
    dsimp only
    omega
   ·have hle:cn≤((Lib.split l[i] [32]).length:Int):=of_decide_eq_true (by assumption)
    have hj:(cn-1).toNat<(Lib.split l[i] [32]).length:=by omega
    refine ⟨(cn-1).toNat,by show cn-1=_;omega,hj,rfl,?_⟩
    skip
    refine ⟨((Lib.split l[i] [32])[(cn-1).toNat],true),(by (refine qa_ ?_;refine Sel4.mk rfl rfl ?_ ?_<;>(repeat' first|exact True.intro|exact rfl|exact .inl rfl|exact .inr rfl|refine And.intro ?_ ?_|fail))),?_⟩
    rw [xd_ hlt (by show (4:Int)<6;decide),←ho]
    have h2:¬ ((Lib.split l[i] [32]).length:Int)<cn:=by omega
    have e:(Lib.split l[i] [32]).getD (cn-1).toNat []=(Lib.split l[i] [32])[(cn-1).toNat]:=by rw [List.getD_eq_getElem?_getD,List.getElem?_eq_getElem hj];rfl
    unfold oneC
    simp only [show ¬ (4:Int)=1 by decide,show ¬ (4:Int)=2 by decide,show ¬ (4:Int)=3 by decide,if_false,if_true,if_neg h2,e]
  ·repeat' first|(refine fun (b:Bool) hb=>?_;cases b<;>first|exact absurd hb (by decide)|exact nfl hb|exact nfr hb|skip)|(refine fun (hl:_≤MAXL)=>?_)|refine And.intro (a:=I64 _) ?_ ?_|fail
   ·unfold I64
    dsimp only
    omega
   conv=>whnf
   refine qb_ [1,2,5,7,8,14,15,16] (σ:=Int × Bs) (fun s=>[(13,.int .i64 s.1),(12,.str s.2)]) (fun _=>[.box (cmdV ⟨5,cw,cn⟩).cells,.row 1 (out.map strV)]) (fun s=>s.2=(l[i].drop (s.1+1).toNat).reverse∧-1≤s.1∧s.1<(l[i].length:Int)) (fun s=>(s.1+1).toNat) ((l[i].length:Int)-1,[]) ?_
   conv=>whnf
   refine ⟨(by (refine qa_ ?_;refine Sel4.mk rfl rfl ?_ ?_<;>(repeat' first|exact True.intro|exact rfl|exact .inl rfl|exact .inr rfl|refine And.intro ?_ ?_|fail))),⟨by simp,by dsimp only;omega,by dsimp only;omega⟩,fun s hs=>?_⟩
   obtain ⟨k,t⟩:=s
   obtain ⟨ht,hk1,hk2⟩:=hs
   dsimp only at ht hk1 hk2
   repeat' first|(refine fun (b:Bool) hb=>?_;cases b<;>first|exact absurd hb (by decide)|exact nfl hb|exact nfr hb|skip)|refine And.intro (a:=I64 _) ?_ ?_|fail
   ·have hge:¬ (0:Int)≤k:=of_decide_eq_false (by assumption)
    refine ⟨(t,true),(by (refine qa_ ?_;refine Sel4.mk rfl rfl ?_ ?_<;>(repeat' first|exact True.intro|exact rfl|exact .inl rfl|exact .inr rfl|refine And.intro ?_ ?_|fail))),?_⟩
    rw [xd_ hlt (by show (5:Int)<6;decide),←ho,ht,show (k+1).toNat=0 by omega,List.drop_zero]
    rw [one_5]
    rfl
   ·unfold I64
    dsimp only
    omega
   have hge:(0:Int)≤k:=of_decide_eq_true (by assumption)
   obtain ⟨j,rfl⟩:∃ j:Nat,k=(j:Int):=⟨k.toNat,by omega⟩
   have hj:j<l[i].length:=by omega
   refine ⟨j,j+1,rfl,rfl,by omega,hj,?_⟩
   have hsl:=qlt_ hj
   have hnx:=qkt_ hj ht
   have htl:t.length≤l[i].length:=by rw [ht];simp
   rw [hsl]
   skip
   refine ⟨by show t.length+1≤MAXL;unfold MAXL;omega,?_⟩
   repeat' first|refine And.intro (a:=I64 _) ?_ ?_|fail
   ·unfold I64
    dsimp only
    omega
   refine ⟨((j:Int)-1,t++[l[i][j]]),(by (refine qa_ ?_;refine Sel4.mk rfl rfl ?_ ?_<;>(repeat' first|exact True.intro|exact rfl|exact .inl rfl|exact .inr rfl|refine And.intro ?_ ?_|fail))),⟨?_,by dsimp only;omega,by dsimp only;omega⟩,by dsimp only;omega⟩
   show t++[l[i][j]]=(l[i].drop ((j:Int)-1+1).toNat).reverse
   rw [show ((j:Int)-1+1).toNat=j by omega]
   exact hnx
  ·repeat' first|(refine fun (b:Bool) hb=>?_;cases b<;>first|exact absurd hb (by decide)|exact nfl hb|exact nfr hb|skip)|fail
   refine ⟨(l[i],true),(by (refine qa_ ?_;refine Sel4.mk rfl rfl ?_ ?_<;>(repeat' first|exact True.intro|exact rfl|exact .inl rfl|exact .inr rfl|refine And.intro ?_ ?_|fail))),?_⟩
   rw [qu0_ hlt rfl,←ho]
   simp
  ·repeat' first|(refine fun (b:Bool) hb=>?_;cases b<;>first|exact absurd hb (by decide)|exact nfl hb|exact nfr hb|skip)|refine And.intro (a:=I64 _) ?_ ?_|fail
   ·unfold I64
    dsimp only
    omega
   ·have h0:¬ (i:Int)=0:=of_decide_eq_false (by assumption)
    refine ⟨i-1,by show (i:Int)-1=_;omega,by omega,rfl,?_⟩
    skip
    refine ⟨(l[i],!decide (l[i-1]=l[i])),(by (refine qa_ ?_;refine Sel4.mk rfl rfl ?_ ?_<;>(repeat' first|exact True.intro|exact rfl|exact .inl rfl|exact .inr rfl|refine And.intro ?_ ?_|fail))),?_⟩
    rw [qrv_ hlt rfl,←ho]
    have e:l.getD (i-1) []=l[i-1]:=by rw [List.getD_eq_getElem?_getD,List.getElem?_eq_getElem (by omega)];rfl
    rw [e]
    by_cases hq:l[i-1]=l[i]
    ·rw [if_neg (by rintro (h|h);exact h0 (by omega);exact h hq)]
     simp [hq]
    ·rw [if_pos (.inr hq)]
     simp [hq]
   ·have h0:(i:Int)=0:=of_decide_eq_true (by assumption)
    skip
    refine ⟨(l[i],true),(by (refine qa_ ?_;refine Sel4.mk rfl rfl ?_ ?_<;>(repeat' first|exact True.intro|exact rfl|exact .inl rfl|exact .inr rfl|refine And.intro ?_ ?_|fail))),?_⟩
    rw [qrv_ hlt rfl,←ho,if_pos (.inl (by omega))]
    simp
  ·repeat' first|(refine fun (b:Bool) hb=>?_;cases b<;>first|exact absurd hb (by decide)|exact nfl hb|exact nfr hb|skip)|fail
   refine ⟨(l[i],false),(by (refine qa_ ?_;refine Sel4.mk rfl rfl ?_ ?_<;>(repeat' first|exact True.intro|exact rfl|exact .inl rfl|exact .inr rfl|refine And.intro ?_ ?_|fail))),?_⟩
   rw [qr2_ rfl,ho,qr2_ rfl]
   simp
  ·repeat' first|(refine fun (b:Bool) hb=>?_;cases b<;>first|exact absurd hb (by decide)|exact nfl hb|exact nfr hb|skip)|fail
   refine ⟨(l[i],decide ((i:Int)<cn)),(by (refine qa_ ?_;refine Sel4.mk rfl rfl ?_ ?_<;>(repeat' first|exact True.intro|exact rfl|exact .inl rfl|exact .inr rfl|refine And.intro ?_ ?_|fail))),?_⟩
   rw [qu7_ hlt rfl,←ho]
   simp
  ·have hn0:0≤cn := by
    unfold checkCmd useN at hc
    grind
   have hn1:cn≤1000:=by
    unfold checkCmd useN at hc
    grind
   repeat' first|(refine fun (b:Bool) hb=>?_;cases b<;>first|exact absurd hb (by decide)|exact nfl hb|exact nfr hb|skip)|(refine fun (hl:_≤MAXL)=>?_)|refine And.intro (a:=I64 _) ?_ ?_|fail
   ·unfold I64
    dsimp only
    omega
   refine ⟨(l[i],decide ((l.length:Int)-cn≤(i:Int))),(by (refine qa_ ?_;refine Sel4.mk rfl rfl ?_ ?_<;>(repeat' first|exact True.intro|exact rfl|exact .inl rfl|exact .inr rfl|refine And.intro ?_ ?_|fail))),?_⟩
   rw [qud_ hlt rfl hn0,←ho]
   simp
 obtain ⟨s,kp⟩:=s
 dsimp only at hst
 cases kp
 ·repeat' first|(refine fun (b:Bool) hb=>?_;cases b<;>first|exact absurd hb (by decide)|exact nfl hb|exact nfr hb|skip)|refine And.intro (a:=I64 _) ?_ ?_|fail
  ·unfold I64
   dsimp only
   omega
  refine ⟨(i+1,out),(by (refine qa_ ?_;refine Sel4.mk rfl rfl ?_ ?_<;>(repeat' first|exact True.intro|exact rfl|exact .inl rfl|exact .inr rfl|refine And.intro ?_ ?_|fail))),⟨?_,hlt⟩,?_⟩
  ·show out=accM c l (i+1)
   rw [hst]
   simp
  ·show l.length-(i+1)<l.length-i
   omega
 ·repeat' first|(refine fun (b:Bool) hb=>?_;cases b<;>first|exact absurd hb (by decide)|exact nfl hb|exact nfr hb|skip)|refine And.intro (a:=I64 _) ?_ ?_|refine And.intro (a:=_≤140737488355328) ?_ ?_|refine ⟨rfl,?_⟩|fail
  ·show ((out.map strV).length+1)*16≤140737488355328
   rw [List.length_map]
   omega
  ·unfold I64
   dsimp only
   omega
  refine ⟨(i+1,out++[s]),?_,⟨?_,hlt⟩,?_⟩
  rotate_left
  ·show out++[s]=accM c l (i+1)
   rw [hst]
   simp
  ·show l.length-(i+1)<l.length-i
   omega
  (refine qa_ ?_;refine Sel4.mk rfl rfl ?_ ?_<;>(repeat' first|exact True.intro|exact rfl|exact .inl rfl|exact .inr rfl|refine And.intro ?_ ?_|fail))
  show Row.row 1 _=Row.row 1 _
  simp
  rfl
end Gv
namespace Gv
variable [Glob] [Laid] [Errs]
theorem qj0_:callable Tryz.prog 210=true:=by kernel_rfl
def parseIS_S:Spec:=fun args K=>∃ (s:Bs),args=[.str s,.int .i64 10,.int .i64 64]∧s.length≤140737488355328∧(∀ k,Lib.atoiAll s=.ok k→K (.tup [.int .i64 k,.raw .nilIface]))∧∀ n T b,(∀ k,Lib.atoiAll s≠.ok k)→K (.tup [.int .i64 n,.raw (.iface T (.pointer (some ⟨b,0,none⟩)))])
theorem qjf_:Pure Tryz.prog 210 parseIS_S:=by
 intro w m args us K hm hg hv hT
 obtain ⟨s,rfl,h1,hok,herr⟩:=hT
 obtain ⟨a,b,c,rfl,ha,hb,hc⟩:=args3 hv.1 hv.2
 cases hb;cases hc
 obtain ⟨rfl,-⟩:=z1_ ha
 have hgw:Sub Glob.mem w:=fun b o e=>hm b o (hg b o e)
 have two:∀ {m:Mem} {n:Int} {u:Value},VR m noLoc (.tup [.int .i64 n,.raw u]) (.tuple #[.int .i64 n,u]):=fun {m n u}=>by
  have h:VRL m noLoc [.int .i64 n,.raw u] [.int .i64 n,u]:=VRL.cons .int (VRL.cons .raw VRL.nil)
  exact .tup h.len h.el
 have hp:Lib.parseIntB 64 s=Lib.atoiAll s:=Lib.parseIntB_64 s
 rw [←hp] at hok herr
 cases h:Lib.parseIntB 64 s with
 | ok v =>
  refine (Tryz.strconv_ParseInt_10_at64_ok (ba s) (by rw [za_];omega) v h w).mono fun e w' ⟨he,hw⟩=>?_
  refine ⟨_,_,he,Bel.of_below ?_,hok v h,two⟩
  rcases hw with rfl|⟨t,rfl⟩
  ·exact RowKit.Below.refl _ _
  ·exact Lib.bytesWorld_below _ _ _
 | range =>
  obtain ⟨tp,pv,e1⟩:=Errs.rng w hgw
  refine (Tryz.strconv_ParseInt_10_at64_range_var (ba s) (by rw [za_];omega) h tp pv w e1).mono fun e w' ⟨N,he,_,_,hw⟩=>?_
  exact ⟨_,_,he,Bel.of_below hw,herr _ _ _ (fun k=>by rw [h];intro x;cases x),two⟩
 | _ =>
  obtain ⟨tp,pv,e1⟩:=Errs.syn w hgw
  refine (Tryz.strconv_ParseInt_10_at64_syntax_var (ba s) (by rw [za_];omega) h tp pv w e1).mono fun e w' ⟨N,he,_,_,hw⟩=>?_
  exact ⟨_,_,he,Bel.of_below hw,herr _ _ _ (fun k=>by rw [h];intro x;cases x),two⟩
end Gv
namespace Gv
variable [Glob] [Laid] [Nums]
theorem qsk_:callable Tryz.prog 211=true:=by kernel_rfl
def fmtI_S:Spec:=fun args K=>∃ (n:Int),args=[.int .i64 n,.int .i64 10]∧I64 n∧K (.str (Lib.itoa n))
theorem qtu_:Pure Tryz.prog 211 fmtI_S:=by
 intro w m args us K hm hg hv hT
 obtain ⟨n,rfl,h1,hK⟩:=hT
 obtain ⟨a,b,rfl,ha,hb⟩:=args2 hv.1 hv.2
 cases ha
 cases hb
 refine (Tryz.strconv_FormatInt_10 n h1.1 h1.2 w (Nums.pow10 w (fun b o e=>hm b o (hg b o e)))).mono fun e w' ⟨he,k,os,hw⟩=>?_
 subst hw
 have:=wz_ n h1
 exact ⟨_,_,he,qib_ w k os,hK,.str (by unfold MAXL;omega)⟩
end Gv
