/- What functions of the program come to, part 2: in every world; the conditions stand in each theorem. -/
import Derived.Test.YtffljdmmambdjabGreatDoorF1
set_option linter.unusedVariables false
set_option linter.unusedSectionVars false
set_option linter.unusedSimpArgs false
set_option maxHeartbeats 16000000
open Go Go.Proofs Gw Gp
namespace Gv
variable [Glob] [Laid]
end Gv
namespace Gv
variable [Glob] [Laid]
theorem equalP_ca:callable Tryz.prog 146=true:=by kernel_rfl
def equalP_S:Spec:=fun args K=>∃ a b:List Port,args=[.sl portV a,.sl portV b]∧K (.bool (decide (a=b)))
noncomputable def equalP_lib:List (Nat × Spec):=[]
noncomputable def equalP_fns:List (Nat × FnI):=[]
noncomputable def equalP_prims:List (Nat × PSpec):=[]
theorem equalP_E:EnvOK ⟨Tryz.prog,tys,equalP_lib,equalP_fns,equalP_prims,[(173,[true,true])]⟩:=env_ok mixed0 tys0 .nil .nil .nil (by kernel_rfl)
theorem equalP_ok:Pure Tryz.prog 146 equalP_S:=by
 refine pure_by equalP_E 6 (fi:={fn:=Tryz.f146,hooks:=[],draws:=[(6,[0,0,3,7,0,0,48,112,255])]}) ⟨Tryz.func146,by kernel_rfl,by kernel_rfl⟩ ?_
 rintro _ K ⟨x,y,rfl,hK⟩
 replace hK:∀ r,r=.bool (decide (x=y))→K r:=fun r h=>h ▸ hK
 repeat' first|(refine fun (b:Bool) hb=>?_;cases b<;>first|exact absurd hb (by decide)|exact nfl hb|exact nfr hb|skip)|(refine fun (hl:_≤MAXL)=>?_)|fail
 rotate_left
 ·refine hK _ ?_
  congr 1
  grind
 conv=>whnf
 refine loop_live [0,1,12] (σ:=Nat) (fun i=>[(13,.int .i64 i)]) (fun _=>[]) (fun i=>i≤x.length∧x.take i=y.take i) (fun i=>x.length-i) 0 ?_
 conv=>whnf
 refine ⟨wk_sel [] rfl rfl trivial (by (repeat' first|exact True.intro|exact rfl|exact .inl rfl|exact .inr rfl|refine And.intro ?_ ?_|fail)),⟨Nat.zero_le _,rfl⟩,?_⟩
 intro i ⟨hi,hI⟩
 repeat' first|(refine fun (b:Bool) hb=>?_;cases b<;>first|exact absurd hb (by decide)|exact nfl hb|exact nfr hb|skip)|refine And.intro (a:=I64 _) ?_ ?_|refine ⟨_,⟨rfl,rfl⟩,?_⟩|refine ⟨_,⟨_,rfl,?_,rfl,rfl,rfl⟩,?_⟩|fail
 all_goals try ((first|omega|(unfold I64;omega)|(simp only [List.length_append,List.length_map,List.length_cons,List.length_nil,Nat.mul_one,Int.ofNat_eq_natCast] at *;omega)|(dsimp only at *;omega)|(unfold I64;dsimp only at *;omega)|(unfold I64;grind)|grind);done)
 ·refine hK _ ?_
  congr 1
  have e:x=y:=by
   have h1:x.take i=x:=List.take_of_length_le (by grind)
   have h2:y.take i=y:=List.take_of_length_le (by grind)
   rw [←h1,←h2,hI]
  simp [e]
 ·have g1:i<x.length:=by grind
  have g2:i<y.length:=by grind
  refine ⟨i+1,?_,⟨?_,?_⟩,?_⟩
  ·refine wk_sel [] rfl rfl trivial ?_
   (repeat' first|exact True.intro|exact rfl|exact .inl rfl|exact .inr rfl|refine And.intro ?_ ?_|fail)
  ·grind
  ·rw [List.take_succ_eq_append_getElem g1,List.take_succ_eq_append_getElem g2,hI]
   have e:x[i]=y[i]:=by
    have h1:x[i].node=y[i].node∧x[i].out=y[i].out:=by grind
    rcases hx:x[i] with ⟨a,b⟩
    rcases hy:y[i] with ⟨a',b'⟩
    rw [hx,hy] at h1
    simp only at h1
    rw [h1.1,h1.2]
   rw [e]
  ·grind
 ·refine hK _ ?_
  congr 1
  grind
end Gv
namespace Gv
variable [Glob] [Laid]
theorem sameGR_ca:callable Tryz.prog 81=true:=by kernel_rfl
def sameGR_S:Spec:=fun args K=>∃ a b:List Gp.Node,args=[.agg [.sl nodeV a],.agg [.sl nodeV b]]∧K (.bool (decide (a=b)))
noncomputable def sameGR_lib:List (Nat × Spec):=[(146,equalP_S)]
noncomputable def sameGR_fns:List (Nat × FnI):=[]
noncomputable def sameGR_prims:List (Nat × PSpec):=[]
theorem sameGR_E:EnvOK ⟨Tryz.prog,tys,sameGR_lib,sameGR_fns,sameGR_prims,[(48,[true,false,true])]⟩:=env_ok mixed0 tys0 (.cons equalP_ca equalP_ok .nil) .nil .nil (by kernel_rfl)
theorem sameGR_ok:Pure Tryz.prog 81 sameGR_S:=by
 refine pure_by sameGR_E 6 (fi:={fn:=Tryz.f81,hooks:=[],draws:=[]}) ⟨Tryz.func81,by kernel_rfl,by kernel_rfl⟩ ?_
 rintro _ K ⟨a,b,rfl,hK⟩
 replace hK:∀ r,r=.bool (decide (a=b))→K r:=fun r h=>h ▸ hK
 repeat' first|(refine fun (b:Bool) hb=>?_;cases b<;>first|exact absurd hb (by decide)|exact nfl hb|exact nfr hb|skip)|(refine fun (hl:_≤MAXL)=>?_)|fail
 rotate_left
 ·refine hK _ ?_
  congr 1
  grind
 conv=>whnf
 refine loop_live [3,16,17] (σ:=Nat) (fun i=>[(18,.int .i64 i)]) (fun _=>[.box [.sl nodeV a],.box [.sl nodeV b]]) (fun i=>i≤a.length∧a.take i=b.take i) (fun i=>a.length-i) 0 ?_
 conv=>whnf
 refine ⟨(by (refine wk_auto ?_;refine Sel4.mk rfl rfl ?_ ?_<;>(repeat' first|exact True.intro|exact rfl|exact .inl rfl|exact .inr rfl|refine And.intro ?_ ?_|fail))),⟨Nat.zero_le _,rfl⟩,fun i hi=>?_⟩
 obtain ⟨hi,hI⟩:=hi
 repeat' first|(refine fun (b:Bool) hb=>?_;cases b<;>first|exact absurd hb (by decide)|exact nfl hb|exact nfr hb|skip)|refine ⟨_,rfl,?_,rfl,?_⟩|fail
 ·refine hK _ ?_
  congr 1
  have e:a=b:=by
   have h1:a.take i=a:=List.take_of_length_le (by grind)
   have h2:b.take i=b:=List.take_of_length_le (by grind)
   rw [←h1,←h2,hI]
  simp [e]
 ·grind
 ·grind
 ·have g1:i<a.length:=by grind
  have g2:i<b.length:=by grind
  refine ⟨a[i].ins,b[i].ins,rfl,?_⟩
  repeat' first|(refine fun (b:Bool) hb=>?_;cases b<;>first|exact absurd hb (by decide)|exact nfl hb|exact nfr hb|skip)|refine And.intro (a:=I64 _) ?_ ?_|fail
  ·(first|omega|(unfold I64;omega)|(simp only [List.length_append,List.length_map,List.length_cons,List.length_nil,Nat.mul_one,Int.ofNat_eq_natCast] at *;omega)|(dsimp only at *;omega)|(unfold I64;dsimp only at *;omega)|(unfold I64;grind)|grind)
  ·refine ⟨i+1,(by (refine wk_auto ?_;refine Sel4.mk rfl rfl ?_ ?_<;>(repeat' first|exact True.intro|exact rfl|exact .inl rfl|exact .inr rfl|refine And.intro ?_ ?_|fail))),⟨by omega,?_⟩,by omega⟩
   rw [List.take_succ_eq_append_getElem g1,List.take_succ_eq_append_getElem g2,hI]
   have e:a[i]=b[i]:=by
    rcases hx:a[i] with ⟨k,f,c,h,w,p⟩
    rcases hy:b[i] with ⟨k',f',c',h',w',p'⟩
    rcases c with ⟨c1,c2,c3⟩
    rcases c' with ⟨d1,d2,d3⟩
    simp_all
   rw [e]
  ·refine hK _ ?_
   congr 1
   have:¬ a=b:=fun e=>by
    subst e
    simp at *
   simp [this]
 all_goals
  refine hK _ ?_
  congr 1
  have:¬ a=b:=fun e=>by
   subst e
   simp at *
  simp [this]
end Gv
namespace Gv
variable [Glob] [Laid]
theorem same1_ca:callable Tryz.prog 145=true:=by kernel_rfl
def same1_S:Spec:=fun args K=>∃ a b:Gp.Node,args=[nodeV a,nodeV b]∧K (.bool (decide (a=b)))
noncomputable def same1_lib:List (Nat × Spec):=[(146,equalP_S)]
noncomputable def same1_fns:List (Nat × FnI):=[]
noncomputable def same1_prims:List (Nat × PSpec):=[]
theorem same1_E:EnvOK ⟨Tryz.prog,tys,same1_lib,same1_fns,same1_prims,[(48,[true,false,true])]⟩:=env_ok mixed0 tys0 (.cons equalP_ca equalP_ok .nil) .nil .nil (by kernel_rfl)
theorem same1_ok:Pure Tryz.prog 145 same1_S:=by
 refine pure_by same1_E 6 (fi:={fn:=Tryz.f145,hooks:=[],draws:=[]}) ⟨Tryz.func145,by kernel_rfl,by kernel_rfl⟩ ?_
 rintro _ K ⟨⟨k,f,⟨ck,cw,cn⟩,h,w,ins⟩,⟨k',f',⟨ck',cw',cn'⟩,h',w',ins'⟩,rfl,hK⟩
 replace hK:∀ r,r=.bool (decide ((⟨k,f,⟨ck,cw,cn⟩,h,w,ins⟩:Gp.Node)=⟨k',f',⟨ck',cw',cn'⟩,h',w',ins'⟩))→K r:=fun r h=>h ▸ hK
 repeat' first|(refine fun (b:Bool) hb=>?_;cases b<;>first|exact absurd hb (by decide)|exact nfl hb|exact nfr hb|skip)|refine ⟨_,_,rfl,?_⟩|fail
 all_goals refine hK _ ?_
 all_goals congr 1
 all_goals grind
end Gv
namespace Gv
variable [Glob] [Laid]
theorem same_ca:callable Tryz.prog 80=true:=by kernel_rfl
def same_S:Spec:=fun args K=>∃ a b:List Gp.Node,args=[.agg [.sl nodeV a],.agg [.sl nodeV b]]∧K (.bool (decide (a=b)))
noncomputable def same_lib:List (Nat × Spec):=[(145,same1_S)]
noncomputable def same_fns:List (Nat × FnI):=[(144,{fn:=Tryz.f144,hooks:=[],draws:=[]})]
noncomputable def same_prims:List (Nat × PSpec):=[]
theorem same_E:EnvOK ⟨Tryz.prog,tys,same_lib,same_fns,same_prims,[]⟩:=env_ok mixed0 tys0 (.cons same1_ca same1_ok .nil) (.cons (by kernel_rfl) ⟨Tryz.func144,by kernel_rfl,by kernel_rfl⟩ .nil) .nil rfl
theorem same_ok:Pure Tryz.prog 80 same_S:=by
 refine pure_by same_E 6 (fi:={fn:=Tryz.f80,hooks:=[],draws:=[]}) ⟨Tryz.func80,by kernel_rfl,by kernel_rfl⟩ ?_
 rintro _ K ⟨x,y,rfl,hK⟩
 replace hK:∀ r,r=.bool (decide (x=y))→K r:=fun r h=>h ▸ hK
 repeat' first|(refine fun (b:Bool) hb=>?_;cases b<;>first|exact absurd hb (by decide)|exact nfl hb|exact nfr hb|skip)|(refine fun (hl:_≤MAXL)=>?_)|fail
 rotate_left
 ·refine hK _ ?_
  congr 1
  grind
 conv=>whnf
 refine loop_live [1,2,15,16] (σ:=Nat) (fun i=>[(17,.int .i64 i)]) (fun _=>[.box [.sl nodeV x],.box [.sl nodeV y]]) (fun i=>i≤x.length∧x.take i=y.take i) (fun i=>x.length-i) 0 ?_
 conv=>whnf
 refine ⟨(by (refine wk_sel [some 0,some 1] rfl rfl ?_ ?_<;>(repeat' first|exact True.intro|exact rfl|exact .inl rfl|exact .inr rfl|refine And.intro ?_ ?_|fail))),⟨Nat.zero_le _,rfl⟩,?_⟩
 intro i ⟨hi,hI⟩
 repeat' first|(refine fun (b:Bool) hb=>?_;cases b<;>first|exact absurd hb (by decide)|exact nfl hb|exact nfr hb|skip)|refine ⟨_,rfl,?_,rfl,?_⟩|fail
 all_goals try ((first|omega|(unfold I64;omega)|(simp only [List.length_append,List.length_map,List.length_cons,List.length_nil,Nat.mul_one,Int.ofNat_eq_natCast] at *;omega)|(dsimp only at *;omega)|(unfold I64;dsimp only at *;omega)|(unfold I64;grind)|grind);done)
 ·refine hK _ ?_
  congr 1
  have e:x=y:=by
   have h1:x.take i=x:=List.take_of_length_le (by grind)
   have h2:y.take i=y:=List.take_of_length_le (by grind)
   rw [←h1,←h2,hI]
  simp [e]
 have g1:i<x.length:=by grind
 have g2:i<y.length:=by grind
 refine ⟨x[i],y[i],rfl,?_⟩
 repeat' first|(refine fun (b:Bool) hb=>?_;cases b<;>first|exact absurd hb (by decide)|exact nfl hb|exact nfr hb|skip)|refine And.intro (a:=I64 _) ?_ ?_|fail
 all_goals try ((first|omega|(unfold I64;omega)|(simp only [List.length_append,List.length_map,List.length_cons,List.length_nil,Nat.mul_one,Int.ofNat_eq_natCast] at *;omega)|(dsimp only at *;omega)|(unfold I64;dsimp only at *;omega)|(unfold I64;grind)|grind);done)
 ·refine ⟨i+1,?_,⟨?_,?_⟩,?_⟩
  ·exact (by (refine wk_sel [some 0,some 1] rfl rfl ?_ ?_<;>(repeat' first|exact True.intro|exact rfl|exact .inl rfl|exact .inr rfl|refine And.intro ?_ ?_|fail)))
  ·grind
  ·rw [List.take_succ_eq_append_getElem g1,List.take_succ_eq_append_getElem g2,hI]
   have e:x[i]=y[i]:=by grind
   rw [e]
  ·grind
 ·refine hK _ ?_
  congr 1
  grind
end Gv
namespace Gv
variable [Glob] [Laid]
theorem leq_not (a b:Bs):(Op.bytesLess a b || decide (a=b))=!Op.bytesLess b a:=by
 rw [less_eq,less_eq]
 by_cases h1:b<a
 ·have h2:¬ a<b:=fun h=>List.lt_irrefl _ (List.lt_trans h h1)
  have h3:¬ a=b:=fun e=>by subst e;exact List.lt_irrefl _ h1
  simp [h1,h2,h3]
 ·by_cases e:a=b
  ·subst e
   simp [h1]
  ·have h2:a<b:=Decidable.byContradiction fun h=>e (List.le_antisymm h1 h)
   simp [h1,h2]
theorem cfilesR_ca:callable Tryz.prog 21=true:=by kernel_rfl
def cfilesR_S:Spec:=fun args K=>∃ l:List FileS,args=[.sl fileV l]∧K (.int .i64 (checkFiles l))
noncomputable def cfilesR_lib:List (Nat × Spec):=[(33,isWordR_S)]
noncomputable def cfilesR_fns:List (Nat × FnI):=[]
noncomputable def cfilesR_prims:List (Nat × PSpec):=[]
theorem cfilesR_E:EnvOK ⟨Tryz.prog,tys,cfilesR_lib,cfilesR_fns,cfilesR_prims,[]⟩:=env_ok mixed0 tys0 (.cons isWordR_ca isWordR_ok .nil) .nil .nil rfl
theorem cfilesR_ok:Pure Tryz.prog 21 cfilesR_S:=by
 refine pure_by cfilesR_E 6 (fi:={fn:=Tryz.f21,hooks:=[],draws:=[(10,[0,1,3,7,15,7,7,71,231,487,999,2047,4095,8191])]}) ⟨Tryz.func21,by kernel_rfl,by kernel_rfl⟩ ?_
 rintro _ K ⟨l,rfl,hK⟩
 replace hK:∀ r,r=.int .i64 (checkFiles l)→K r:=fun r h=>h ▸ hK
 repeat' first|(refine fun (b:Bool) hb=>?_;cases b<;>first|exact absurd hb (by decide)|exact nfl hb|exact nfr hb|skip)|(refine fun (hl:_≤MAXL)=>?_)|fail
 rotate_left
 ·refine hK _ ?_
  have h:=of_decide_eq_true (by assumption:decide ((12:Int)<(l.length:Int))=true)
  unfold checkFiles
  rw [if_pos (by omega)]
 have h12:¬ 12<l.length:=by
  have h:=of_decide_eq_false (by assumption:decide ((12:Int)<(l.length:Int))=false)
  omega
 have hcf:checkFiles l=filesGo none l:=by unfold checkFiles;rw [if_neg h12]
 rw [hcf] at hK
 conv=>whnf
 refine loop_live [0,8,9] (σ:=Nat) (fun i=>[(10,.int .i64 i)]) (fun i=>[]) (fun i=>i≤l.length∧filesGo (prevN l i) (l.drop i)=filesGo none l) (fun i=>l.length-i) 0 ?_
 conv=>whnf
 refine ⟨(by (refine wk_auto ?_;refine Sel4.mk rfl rfl ?_ ?_<;>(repeat' first|exact True.intro|exact rfl|exact .inl rfl|exact .inr rfl|refine And.intro ?_ ?_|fail))),⟨Nat.zero_le _,rfl⟩,fun i hi=>?_⟩
 obtain ⟨hi,hg⟩:=hi
 repeat' first|(refine fun (b:Bool) hb=>?_;cases b<;>first|exact absurd hb (by decide)|exact nfl hb|exact nfr hb|skip)|refine ⟨_,rfl,?_,rfl,?_⟩|fail
 ·have h:=of_decide_eq_false (by assumption:decide ((i:Int)<(l.length:Int))=false)
  have e:l.drop i=[]:=List.drop_eq_nil_of_le (by omega)
  rw [e] at hg
  conv=>whnf
  refine hK _ ?_
  rw [←hg]
  rfl
 ·have h:=of_decide_eq_true (by assumption:decide ((i:Int)<(l.length:Int))=true)
  show i<l.length
  omega
 have hlt:i<l.length:=by
  have h:=of_decide_eq_true (by assumption:decide ((i:Int)<(l.length:Int))=true)
  omega
 rw [filesGo_at hlt] at hg
 refine ⟨l[i].name,rfl,?_⟩
 repeat' first|exact True.intro|(refine fun (b:Bool) hb=>?_;cases b<;>first|exact absurd hb (by decide)|exact nfl hb|exact nfr hb|skip)|(refine fun (hl:_≤MAXL)=>?_)|refine And.intro (a:=I64 _) ?_ ?_|refine ⟨_,⟨rfl,rfl⟩,?_⟩|refine ⟨_,And.intro (a:=I64 _) ?_ ⟨rfl,rfl⟩,?_⟩|refine And.intro (a:=chkPast _ _ _ _ _ _ _ _) ?_ ?_|fail
 ·unfold I64;omega
 ·have h1:isWord l[i].name=true := by
   have h:(!isWord l[i].name)=false:=by assumption
   simpa using h
  have h2:¬ (4000:Int)<(l[i].b.length:Int):=of_decide_eq_false (by assumption)
  have h3:¬ (0:Int)<(i:Int):=of_decide_eq_false (by assumption)
  have e0:i=0:=by omega
  have h4:notRise (prevN l i) l[i].name=false:=by
   have:prevN l i=none:=by unfold prevN;rw [if_pos e0]
   rw [this];rfl
  rw [if_neg (by rw [h1];decide),if_neg (by omega),if_neg (by rw [h4];decide)] at hg
  exact ⟨i+1,(by (refine wk_auto ?_;refine Sel4.mk rfl rfl ?_ ?_<;>(repeat' first|exact True.intro|exact rfl|exact .inl rfl|exact .inr rfl|refine And.intro ?_ ?_|fail))),⟨hlt,hg⟩,by omega⟩
 ·unfold I64;omega
 ·have h1:isWord l[i].name=true := by
   have h:(!isWord l[i].name)=false:=by assumption
   simpa using h
  have h2:¬ (4000:Int)<(l[i].b.length:Int):=of_decide_eq_false (by assumption)
  have h3:(0:Int)<(i:Int):=of_decide_eq_true (by assumption)
  have hp:prevN l i=some (l[i-1]'(by omega)).name:=by
   unfold prevN
   rw [if_neg (by omega),List.getD_eq_getElem?_getD,List.getElem?_eq_getElem (by omega)]
   rfl
  rw [if_neg (by rw [h1];decide),if_neg (by omega),hp] at hg
  conv=>whnf
  refine ⟨_,⟨i-1,by omega,by omega,rfl,rfl,rfl⟩,?_⟩
  repeat' first|(refine fun (b:Bool) hb=>?_;cases b<;>first|exact absurd hb (by decide)|exact nfl hb|exact nfr hb|skip)|refine And.intro (a:=I64 _) ?_ ?_|refine ⟨_,⟨rfl,rfl⟩,?_⟩|fail
  ·unfold I64;omega
  ·have h4:notRise (some (l[i-1]'(by omega)).name) l[i].name=false := by
    have h:(Op.bytesLess l[i].name (l[i-1]'(by omega)).name || decide (l[i].name=(l[i-1]'(by omega)).name))=false:=by assumption
    rw [leq_not] at h
    exact h
   rw [if_neg (by rw [h4];decide)] at hg
   exact ⟨i+1,(by (refine wk_auto ?_;refine Sel4.mk rfl rfl ?_ ?_<;>(repeat' first|exact True.intro|exact rfl|exact .inl rfl|exact .inr rfl|refine And.intro ?_ ?_|fail))),⟨hlt,hg⟩,by omega⟩
  ·have h4:notRise (some (l[i-1]'(by omega)).name) l[i].name=true := by
    have h:(Op.bytesLess l[i].name (l[i-1]'(by omega)).name || decide (l[i].name=(l[i-1]'(by omega)).name))=true:=by assumption
    rw [leq_not] at h
    exact h
   rw [if_pos h4] at hg
   conv=>whnf
   exact hK _ (by rw [←hg])
 ·have h1:isWord l[i].name=true := by
   have h:(!isWord l[i].name)=false:=by assumption
   simpa using h
  have h2:(4000:Int)<(l[i].b.length:Int):=of_decide_eq_true (by assumption)
  rw [if_neg (by rw [h1];decide),if_pos (by omega)] at hg
  conv=>whnf
  exact hK _ (by rw [←hg])
 ·have h1:isWord l[i].name=false := by
   have h:(!isWord l[i].name)=true:=by assumption
   simpa using h
  rw [if_pos h1] at hg
  conv=>whnf
  exact hK _ (by rw [←hg])
end Gv
namespace Gv
variable [Glob] [Laid]
def sorterNodes:List Gp.Node:=[srcN [97],splitN 2 [⟨0,0⟩],workN ⟨6,[],0⟩ [⟨1,0⟩],workN ⟨6,[],0⟩ [⟨1,1⟩],joinN 2 zCmd [⟨2,0⟩,⟨3,0⟩],sinkN [98] [⟨4,0⟩]]
theorem sorter_ca:callable Tryz.prog 137=true:=by kernel_rfl
def sorter_S:Spec:=fun args K=>args=[]∧K (.agg [.sl nodeV sorterNodes])
noncomputable def sorter_lib:List (Nat × Spec):=[]
noncomputable def sorter_fns:List (Nat × FnI):=[]
noncomputable def sorter_prims:List (Nat × PSpec):=[]
theorem sorter_E:EnvOK ⟨Tryz.prog,tys,sorter_lib,sorter_fns,sorter_prims,[]⟩:=env_ok mixed0 tys0 .nil .nil .nil rfl
set_option maxRecDepth 10000 in
theorem sorter_ok:Pure Tryz.prog 137 sorter_S:=by
 refine pure_by sorter_E 6 (fi:={fn:=Tryz.f137,hooks:=[],draws:=[]}) ⟨Tryz.func137,by kernel_rfl,by kernel_rfl⟩ ?_
 rintro _ K ⟨rfl,hK⟩
 repeat' (first|exact True.intro|refine ⟨_,LeL.refl _,?_⟩|refine ⟨_,_,_,LeL.refl _,?_⟩|(refine fun (b:Bool) hb=>?_;cases b<;>first|exact absurd hb (by decide)|exact nfl hb|exact nfr hb|skip)|(refine fun (hl:_≤MAXL)=>?_)|refine And.intro (a:=I64 _) ?_ ?_|refine And.intro (a:=_≤140737488355328) ?_ ?_|refine ⟨_,⟨rfl,rfl⟩,?_⟩|refine ⟨_,And.intro (a:=I64 _) ?_ ⟨rfl,rfl⟩,?_⟩|refine ⟨_,_,⟨rfl,rfl⟩,?_⟩|refine ⟨_,(fun _=>⟨rfl,rfl⟩),?_⟩|refine And.intro (a:=chkPend _ _ _ _ _ _) ?_ ?_|refine And.intro (a:=chkPast _ _ _ _ _ _ _ _) ?_ ?_|refine ⟨⟨rfl,rfl⟩,?_⟩|refine And.intro (And.intro rfl rfl) ?_|refine ⟨True.intro,?_⟩|refine ⟨_,⟨_,rfl,?_,rfl,rfl,rfl⟩,?_⟩|refine ⟨_,rfl,?_,rfl,?_⟩|refine ⟨_,(fun _=>rfl),rfl,?_⟩|refine ⟨(fun _=>rfl),?_⟩|refine ⟨rfl,?_⟩|refine Opt.a ?_|fail)
 refine ⟨Gp.Port,portV,?_⟩
 repeat' (first|exact True.intro|refine ⟨_,LeL.refl _,?_⟩|refine ⟨_,_,_,LeL.refl _,?_⟩|(refine fun (b:Bool) hb=>?_;cases b<;>first|exact absurd hb (by decide)|exact nfl hb|exact nfr hb|skip)|(refine fun (hl:_≤MAXL)=>?_)|refine And.intro (a:=I64 _) ?_ ?_|refine And.intro (a:=_≤140737488355328) ?_ ?_|refine ⟨_,⟨rfl,rfl⟩,?_⟩|refine ⟨_,And.intro (a:=I64 _) ?_ ⟨rfl,rfl⟩,?_⟩|refine ⟨_,_,⟨rfl,rfl⟩,?_⟩|refine ⟨_,(fun _=>⟨rfl,rfl⟩),?_⟩|refine And.intro (a:=chkPend _ _ _ _ _ _) ?_ ?_|refine And.intro (a:=chkPast _ _ _ _ _ _ _ _) ?_ ?_|refine ⟨⟨rfl,rfl⟩,?_⟩|refine And.intro (And.intro rfl rfl) ?_|refine ⟨True.intro,?_⟩|refine ⟨_,⟨_,rfl,?_,rfl,rfl,rfl⟩,?_⟩|refine ⟨_,rfl,?_,rfl,?_⟩|refine ⟨_,(fun _=>rfl),rfl,?_⟩|refine ⟨(fun _=>rfl),?_⟩|refine ⟨rfl,?_⟩|refine Opt.a ?_|fail)
 refine ⟨Gp.Port,portV,[⟨0,0⟩],LeL.refl _,?_⟩
 repeat' (first|exact True.intro|refine ⟨_,LeL.refl _,?_⟩|refine ⟨_,_,_,LeL.refl _,?_⟩|(refine fun (b:Bool) hb=>?_;cases b<;>first|exact absurd hb (by decide)|exact nfl hb|exact nfr hb|skip)|(refine fun (hl:_≤MAXL)=>?_)|refine And.intro (a:=I64 _) ?_ ?_|refine And.intro (a:=_≤140737488355328) ?_ ?_|refine ⟨_,⟨rfl,rfl⟩,?_⟩|refine ⟨_,And.intro (a:=I64 _) ?_ ⟨rfl,rfl⟩,?_⟩|refine ⟨_,_,⟨rfl,rfl⟩,?_⟩|refine ⟨_,(fun _=>⟨rfl,rfl⟩),?_⟩|refine And.intro (a:=chkPend _ _ _ _ _ _) ?_ ?_|refine And.intro (a:=chkPast _ _ _ _ _ _ _ _) ?_ ?_|refine ⟨⟨rfl,rfl⟩,?_⟩|refine And.intro (And.intro rfl rfl) ?_|refine ⟨True.intro,?_⟩|refine ⟨_,⟨_,rfl,?_,rfl,rfl,rfl⟩,?_⟩|refine ⟨_,rfl,?_,rfl,?_⟩|refine ⟨_,(fun _=>rfl),rfl,?_⟩|refine ⟨(fun _=>rfl),?_⟩|refine ⟨rfl,?_⟩|refine Opt.a ?_|fail)
 refine ⟨Gp.Port,portV,[⟨1,0⟩],LeL.refl _,?_⟩
 repeat' (first|exact True.intro|refine ⟨_,LeL.refl _,?_⟩|refine ⟨_,_,_,LeL.refl _,?_⟩|(refine fun (b:Bool) hb=>?_;cases b<;>first|exact absurd hb (by decide)|exact nfl hb|exact nfr hb|skip)|(refine fun (hl:_≤MAXL)=>?_)|refine And.intro (a:=I64 _) ?_ ?_|refine And.intro (a:=_≤140737488355328) ?_ ?_|refine ⟨_,⟨rfl,rfl⟩,?_⟩|refine ⟨_,And.intro (a:=I64 _) ?_ ⟨rfl,rfl⟩,?_⟩|refine ⟨_,_,⟨rfl,rfl⟩,?_⟩|refine ⟨_,(fun _=>⟨rfl,rfl⟩),?_⟩|refine And.intro (a:=chkPend _ _ _ _ _ _) ?_ ?_|refine And.intro (a:=chkPast _ _ _ _ _ _ _ _) ?_ ?_|refine ⟨⟨rfl,rfl⟩,?_⟩|refine And.intro (And.intro rfl rfl) ?_|refine ⟨True.intro,?_⟩|refine ⟨_,⟨_,rfl,?_,rfl,rfl,rfl⟩,?_⟩|refine ⟨_,rfl,?_,rfl,?_⟩|refine ⟨_,(fun _=>rfl),rfl,?_⟩|refine ⟨(fun _=>rfl),?_⟩|refine ⟨rfl,?_⟩|refine Opt.a ?_|fail)
 refine ⟨Gp.Port,portV,[⟨1,1⟩],LeL.refl _,?_⟩
 repeat' (first|exact True.intro|refine ⟨_,LeL.refl _,?_⟩|refine ⟨_,_,_,LeL.refl _,?_⟩|(refine fun (b:Bool) hb=>?_;cases b<;>first|exact absurd hb (by decide)|exact nfl hb|exact nfr hb|skip)|(refine fun (hl:_≤MAXL)=>?_)|refine And.intro (a:=I64 _) ?_ ?_|refine And.intro (a:=_≤140737488355328) ?_ ?_|refine ⟨_,⟨rfl,rfl⟩,?_⟩|refine ⟨_,And.intro (a:=I64 _) ?_ ⟨rfl,rfl⟩,?_⟩|refine ⟨_,_,⟨rfl,rfl⟩,?_⟩|refine ⟨_,(fun _=>⟨rfl,rfl⟩),?_⟩|refine And.intro (a:=chkPend _ _ _ _ _ _) ?_ ?_|refine And.intro (a:=chkPast _ _ _ _ _ _ _ _) ?_ ?_|refine ⟨⟨rfl,rfl⟩,?_⟩|refine And.intro (And.intro rfl rfl) ?_|refine ⟨True.intro,?_⟩|refine ⟨_,⟨_,rfl,?_,rfl,rfl,rfl⟩,?_⟩|refine ⟨_,rfl,?_,rfl,?_⟩|refine ⟨_,(fun _=>rfl),rfl,?_⟩|refine ⟨(fun _=>rfl),?_⟩|refine ⟨rfl,?_⟩|refine Opt.a ?_|fail)
 refine ⟨Gp.Port,portV,[⟨2,0⟩,⟨3,0⟩],LeL.refl _,?_⟩
 repeat' (first|exact True.intro|refine ⟨_,LeL.refl _,?_⟩|refine ⟨_,_,_,LeL.refl _,?_⟩|(refine fun (b:Bool) hb=>?_;cases b<;>first|exact absurd hb (by decide)|exact nfl hb|exact nfr hb|skip)|(refine fun (hl:_≤MAXL)=>?_)|refine And.intro (a:=I64 _) ?_ ?_|refine And.intro (a:=_≤140737488355328) ?_ ?_|refine ⟨_,⟨rfl,rfl⟩,?_⟩|refine ⟨_,And.intro (a:=I64 _) ?_ ⟨rfl,rfl⟩,?_⟩|refine ⟨_,_,⟨rfl,rfl⟩,?_⟩|refine ⟨_,(fun _=>⟨rfl,rfl⟩),?_⟩|refine And.intro (a:=chkPend _ _ _ _ _ _) ?_ ?_|refine And.intro (a:=chkPast _ _ _ _ _ _ _ _) ?_ ?_|refine ⟨⟨rfl,rfl⟩,?_⟩|refine And.intro (And.intro rfl rfl) ?_|refine ⟨True.intro,?_⟩|refine ⟨_,⟨_,rfl,?_,rfl,rfl,rfl⟩,?_⟩|refine ⟨_,rfl,?_,rfl,?_⟩|refine ⟨_,(fun _=>rfl),rfl,?_⟩|refine ⟨(fun _=>rfl),?_⟩|refine ⟨rfl,?_⟩|refine Opt.a ?_|fail)
 refine ⟨Gp.Port,portV,[⟨4,0⟩],LeL.refl _,?_⟩
 repeat' (first|exact True.intro|refine ⟨_,LeL.refl _,?_⟩|refine ⟨_,_,_,LeL.refl _,?_⟩|(refine fun (b:Bool) hb=>?_;cases b<;>first|exact absurd hb (by decide)|exact nfl hb|exact nfr hb|skip)|(refine fun (hl:_≤MAXL)=>?_)|refine And.intro (a:=I64 _) ?_ ?_|refine And.intro (a:=_≤140737488355328) ?_ ?_|refine ⟨_,⟨rfl,rfl⟩,?_⟩|refine ⟨_,And.intro (a:=I64 _) ?_ ⟨rfl,rfl⟩,?_⟩|refine ⟨_,_,⟨rfl,rfl⟩,?_⟩|refine ⟨_,(fun _=>⟨rfl,rfl⟩),?_⟩|refine And.intro (a:=chkPend _ _ _ _ _ _) ?_ ?_|refine And.intro (a:=chkPast _ _ _ _ _ _ _ _) ?_ ?_|refine ⟨⟨rfl,rfl⟩,?_⟩|refine And.intro (And.intro rfl rfl) ?_|refine ⟨True.intro,?_⟩|refine ⟨_,⟨_,rfl,?_,rfl,rfl,rfl⟩,?_⟩|refine ⟨_,rfl,?_,rfl,?_⟩|refine ⟨_,(fun _=>rfl),rfl,?_⟩|refine ⟨(fun _=>rfl),?_⟩|refine ⟨rfl,?_⟩|refine Opt.a ?_|fail)
 refine ⟨Gp.Node,nodeV,sorterNodes,LeL.refl _,?_⟩
 exact hK
end Gv
namespace Gv
variable [Glob] [Laid]
def fileA:FileS:=⟨[97],[51,10,49,10,50,10,48]⟩
theorem flow1:checkG sorterNodes=0:=by decide +kernel
theorem flow2:checkG (sorterNodes.take 5)=4:=by decide +kernel
theorem flow3:checkFiles [fileA]=0:=by decide +kernel
theorem flow4:sortB [[51],[49]]=[[49],[51]]:=sortB_of (by decide) (by decide)
theorem flow5:sortB [[50],[48]]=[[48],[50]]:=sortB_of (by decide) (by decide)
theorem flow6:evalG sorterNodes [fileA]=([48,10,49,10,50,10,51,10],0):=by
 have h1:makeN (srcN [97]) [fileA] []=[[51,10,49,10,50,10,48,10]]:=by decide +kernel
 have h2:makeN (splitN 2 [⟨0,0⟩]) [fileA] [[51,10,49,10,50,10,48,10]]=[[51,10,49,10],[50,10,48,10]]:=by decide +kernel
 have h3:makeN (workN ⟨6,[],0⟩ [⟨1,0⟩]) [fileA] [[51,10,49,10]]=[[49,10,51,10]]:=by
  show [put (sortB (linesOf [51,10,49,10]))]=_
  rw [show linesOf [51,10,49,10]=[[51],[49]] by decide +kernel,flow4]
  decide +kernel
 have h4:makeN (workN ⟨6,[],0⟩ [⟨1,1⟩]) [fileA] [[50,10,48,10]]=[[48,10,50,10]]:=by
  show [put (sortB (linesOf [50,10,48,10]))]=_
  rw [show linesOf [50,10,48,10]=[[50],[48]] by decide +kernel,flow5]
  decide +kernel
 have h5:makeN (joinN 2 zCmd [⟨2,0⟩,⟨3,0⟩]) [fileA] [[49,10,51,10],[48,10,50,10]]=[[48,10,49,10,50,10,51,10]]:=by decide +kernel
 unfold evalG
 rw [flow1,flow3,if_neg (by simp),if_neg (by simp)]
 unfold sorterNodes
 rw [evalGo,if_neg (by decide),show insOf [] (srcN [97]).ins=[] from rfl,h1,List.nil_append]
 rw [evalGo,if_neg (by decide),show insOf [[[51,10,49,10,50,10,48,10]]] (splitN 2 [⟨0,0⟩]).ins=[[51,10,49,10,50,10,48,10]] from rfl,h2]
 rw [evalGo,if_neg (by decide)]
 show evalGo _ _ (_++[makeN (workN ⟨6,[],0⟩ [⟨1,0⟩]) [fileA] [[51,10,49,10]]])=_
 rw [h3,evalGo,if_neg (by decide)]
 show evalGo _ _ (_++[makeN (workN ⟨6,[],0⟩ [⟨1,1⟩]) [fileA] [[50,10,48,10]]])=_
 rw [h4,evalGo,if_neg (by decide)]
 show evalGo _ _ (_++[makeN (joinN 2 zCmd [⟨2,0⟩,⟨3,0⟩]) [fileA] [[49,10,51,10],[48,10,50,10]]])=_
 rw [h5,evalGo,if_pos (by decide)]
 rfl
end Gv
namespace Gv
variable [Glob] [Laid] [Nums] [Errs]
theorem flowed_ca:callable Tryz.prog 70=true:=by kernel_rfl
def flowed_S:Spec:=fun args K=>args=[]∧K (.bool true)
noncomputable def flowed_lib:List (Nat × Spec):=[(137,sorter_S),(69,evalG_S),(78,checkG_S)]
noncomputable def flowed_fns:List (Nat × FnI):=[]
noncomputable def flowed_prims:List (Nat × PSpec):=[]
theorem flowed_E:EnvOK ⟨Tryz.prog,tys,flowed_lib,flowed_fns,flowed_prims,[]⟩:=env_ok mixed0 tys0 (.cons sorter_ca sorter_ok (.cons evalG_ca evalG_ok (.cons checkG_ca checkG_ok .nil))) .nil .nil rfl
set_option maxRecDepth 10000 in
theorem flowed_ok:Pure Tryz.prog 70 flowed_S:=by
 refine pure_by flowed_E 6 (fi:={fn:=Tryz.f70,hooks:=[],draws:=[]}) ⟨Tryz.func70,by kernel_rfl,by kernel_rfl⟩ ?_
 rintro _ K ⟨rfl,hK⟩
 replace hK:∀ r,r=.bool true→K r:=fun r h=>h ▸ hK
 repeat' first|refine ⟨rfl,?_⟩|fail
 conv=>whnf
 skip
 refine ⟨[51,10,49,10,50,10,48],rfl,by decide,?_⟩
 skip
 refine ⟨FileS,fileV,[fileA],LeL.refl _,?_⟩
 refine ⟨sorterNodes,[fileA],rfl,?_⟩
 rw [flow6]
 repeat' first|(refine fun (b:Bool) hb=>?_;cases b<;>first|exact absurd hb (by decide)|exact nfl hb|exact nfr hb|skip)|refine ⟨_,(fun _=>rfl),rfl,?_⟩|fail
 conv=>whnf
 refine ⟨sorterNodes,rfl,?_⟩
 rw [flow1]
 repeat' first|(refine fun (b:Bool) hb=>?_;cases b<;>first|exact absurd hb (by decide)|exact nfl hb|exact nfr hb|skip)|refine ⟨(fun _=>rfl),?_⟩|fail
 conv=>whnf
 refine ⟨5,rfl,by decide,?_⟩
 skip
 conv=>whnf
 refine ⟨sorterNodes.take 5,rfl,?_⟩
 rw [flow2]
 skip
 conv=>whnf
 exact hK _ rfl
end Gv
namespace Gv
variable [Glob] [Laid]
theorem equalB_ca:callable Tryz.prog 24=true:=by kernel_rfl
def equalB_S:Spec:=fun args K=>∃ a b:List UInt8,args=[.sl byteV a,.sl byteV b]∧K (.bool (decide (a=b)))
noncomputable def equalB_lib:List (Nat × Spec):=[]
noncomputable def equalB_fns:List (Nat × FnI):=[]
noncomputable def equalB_prims:List (Nat × PSpec):=[]
theorem equalB_E:EnvOK ⟨Tryz.prog,tys,equalB_lib,equalB_fns,equalB_prims,[]⟩:=env_ok mixed0 tys0 .nil .nil .nil rfl
theorem equalB_ok:Pure Tryz.prog 24 equalB_S:=by
 refine pure_by equalB_E 6 (fi:={fn:=Tryz.f24,hooks:=[],draws:=[(6,[0,0,3,7,0,0,48,112,255])]}) ⟨Tryz.func24,by kernel_rfl,by kernel_rfl⟩ ?_
 rintro _ K ⟨x,y,rfl,hK⟩
 replace hK:∀ r,r=.bool (decide (x=y))→K r:=fun r h=>h ▸ hK
 repeat' first|(refine fun (b:Bool) hb=>?_;cases b<;>first|exact absurd hb (by decide)|exact nfl hb|exact nfr hb|skip)|(refine fun (hl:_≤MAXL)=>?_)|fail
 rotate_left
 ·refine hK _ ?_
  congr 1
  grind
 conv=>whnf
 refine loop_intro (σ:=Nat) (fun i=>[(0,.sl byteV x),(1,.sl byteV y),(12,.int .i64 x.length),(13,.int .i64 i),(4,.lit false)]) (fun _=>[]) (fun i=>i≤x.length∧x.take i=y.take i) (fun i=>x.length-i) 0 (wk_sel [] rfl rfl trivial ?_) ⟨Nat.zero_le _,rfl⟩ ?_
 ·(repeat' first|exact True.intro|exact rfl|exact .inl rfl|exact .inr rfl|refine And.intro ?_ ?_|fail)
 intro i ⟨hi,hI⟩
 repeat' first|(refine fun (b:Bool) hb=>?_;cases b<;>first|exact absurd hb (by decide)|exact nfl hb|exact nfr hb|skip)|refine And.intro (a:=I64 _) ?_ ?_|refine ⟨_,⟨rfl,rfl⟩,?_⟩|refine ⟨_,⟨_,rfl,?_,rfl,rfl,rfl⟩,?_⟩|fail
 ·refine hK _ ?_
  congr 1
  have e:x=y:=by
   have h1:x.take i=x:=List.take_of_length_le (by grind)
   have h2:y.take i=y:=List.take_of_length_le (by grind)
   rw [←h1,←h2,hI]
  simp [e]
 ·grind
 ·grind
 ·unfold I64;grind
 ·refine ⟨i+1,?_,⟨?_,?_⟩,?_⟩
  ·refine wk_sel [] rfl rfl trivial ?_
   (repeat' first|exact True.intro|exact rfl|exact .inl rfl|exact .inr rfl|refine And.intro ?_ ?_|fail)
  ·grind
  ·have g1:i<x.length:=by grind
   have g2:i<y.length:=by grind
   rw [List.take_succ_eq_append_getElem g1,List.take_succ_eq_append_getElem g2,hI]
   have e:x[i].toNat=y[i].toNat:=by grind
   rw [UInt8.toNat_inj.1 e]
  ·grind
 ·refine hK _ ?_
  congr 1
  grind
end Gv
namespace Gv
variable [Glob] [Laid]
theorem fileOfR_ca:callable Tryz.prog 91=true:=by kernel_rfl
def fileOfR_S:Spec:=fun args K=>∃ (F:List FileS) (n:Bs),args=[.sl fileV F,.str n]∧K (.sl byteV (getN F n))
noncomputable def fileOfR_lib:List (Nat × Spec):=[]
noncomputable def fileOfR_fns:List (Nat × FnI):=[]
noncomputable def fileOfR_prims:List (Nat × PSpec):=[]
theorem fileOfR_E:EnvOK ⟨Tryz.prog,tys,fileOfR_lib,fileOfR_fns,fileOfR_prims,[]⟩:=env_ok mixed0 tys0 .nil .nil .nil rfl
theorem fileOfR_ok:Pure Tryz.prog 91 fileOfR_S:=by
 refine pure_by fileOfR_E 6 (fi:={fn:=Tryz.f91,hooks:=[],draws:=[]}) ⟨Tryz.func91,by kernel_rfl,by kernel_rfl⟩ ?_
 rintro _ K ⟨F,n,rfl,hK⟩
 replace hK:∀ r,r=.sl byteV (getN F n)→K r:=fun r h=>h ▸ hK
 repeat' first|(refine fun (hl:_≤MAXL)=>?_)|fail
 conv=>whnf
 refine loop_live [1,7,8] (σ:=Nat) (fun i=>[(9,.int .i64 i)]) (fun _=>[]) (fun i=>i≤F.length∧getN (F.drop i) n=getN F n) (fun i=>F.length-i) 0 ?_
 conv=>whnf
 refine ⟨(by (refine wk_auto ?_;refine Sel4.mk rfl rfl ?_ ?_<;>(repeat' first|exact True.intro|exact rfl|exact .inl rfl|exact .inr rfl|refine And.intro ?_ ?_|fail))),⟨Nat.zero_le _,rfl⟩,fun i hi=>?_⟩
 obtain ⟨hi,hg⟩:=hi
 repeat' first|(refine fun (b:Bool) hb=>?_;cases b<;>first|exact absurd hb (by decide)|exact nfl hb|exact nfr hb|skip)|refine And.intro (a:=I64 _) ?_ ?_|refine ⟨_,rfl,?_,rfl,?_⟩|fail
 ·have hge:¬ (i:Int)<(F.length:Int):=of_decide_eq_false (by assumption)
  have e:F.drop i=[]:=List.drop_eq_nil_of_le (by omega)
  rw [e] at hg
  conv=>whnf
  skip
  refine ⟨UInt8,byteV,?_⟩
  refine hK _ ?_
  rw [←hg]
  rfl
 ·have h:=of_decide_eq_true (by assumption:decide ((i:Int)<(F.length:Int))=true)
  show i<F.length
  omega
 ·have hm:F.length≤MAXL:=by assumption
  unfold MAXL at hm
  have h:=of_decide_eq_true (by assumption:decide ((i:Int)<(F.length:Int))=true)
  unfold I64;omega
 all_goals
  have hlt:i<F.length:=by
   have h:=of_decide_eq_true (by assumption:decide ((i:Int)<(F.length:Int))=true)
   omega
  rw [List.drop_eq_getElem_cons hlt] at hg
  unfold getN at hg
  rw [List.find?_cons] at hg
 ·have hn:¬ F[i].name=n:=of_decide_eq_false (by assumption)
  rw [decide_eq_false hn] at hg
  conv=>whnf
  skip
  exact ⟨i+1,(by (refine wk_auto ?_;refine Sel4.mk rfl rfl ?_ ?_<;>(repeat' first|exact True.intro|exact rfl|exact .inl rfl|exact .inr rfl|refine And.intro ?_ ?_|fail))),⟨hlt,hg⟩,by omega⟩
 ·have hn:F[i].name=n:=of_decide_eq_true (by assumption)
  rw [decide_eq_true hn] at hg
  conv=>whnf
  skip
  refine hK _ ?_
  show _=V.sl byteV ((Option.map (·.b) (F.find? fun f=>decide (f.name=n))).getD [])
  rw [←hg]
  rfl
end Gv
namespace Gv
variable [Glob] [Laid]
theorem linesOfR_ca:callable Tryz.prog 38=true:=by kernel_rfl
def linesOfR_S:Spec:=fun args K=>∃ (b:Bs),args=[.sl byteV b]∧b.length≤1000000000∧K (.sl strV (linesOf b))
noncomputable def linesOfR_lib:List (Nat × Spec):=[(105,splitS_S)]
noncomputable def linesOfR_fns:List (Nat × FnI):=[]
noncomputable def linesOfR_prims:List (Nat × PSpec):=[]
theorem linesOfR_E:EnvOK ⟨Tryz.prog,tys,linesOfR_lib,linesOfR_fns,linesOfR_prims,[]⟩:=env_ok mixed0 tys0 (.cons splitS_ca splitS_ok .nil) .nil .nil rfl
theorem linesOfR_ok:Pure Tryz.prog 38 linesOfR_S:=by
 refine pure_by linesOfR_E 6 (fi:={fn:=Tryz.f38,hooks:=[],draws:=[]}) ⟨Tryz.func38,by kernel_rfl,by kernel_rfl⟩ ?_
 rintro _ K ⟨b,rfl,hz,hK⟩
 replace hK:∀ r,r=.sl strV (linesOf b)→K r:=fun r h=>h ▸ hK
 have hsl:=split_lines b
 have hsn:0<(Lib.split b [10]).length:=List.length_pos_iff.2 (split_ne b [10])
 obtain ⟨L,hL⟩:∃ L,Lib.split b [10]=L:=⟨_,rfl⟩
 refine ⟨b,fun _=>rfl,rfl,?_⟩
 refine ⟨b,[10],rfl,⟨by omega,by decide⟩,?_⟩
 rw [hL] at hsl hsn ⊢
 repeat' first|(refine fun (hl:_≤MAXL)=>?_)|refine And.intro (a:=I64 _) ?_ ?_|fail
 ·(first|omega|(unfold I64;omega)|(simp only [List.length_append,List.length_map,List.length_cons,List.length_nil,Nat.mul_one,Int.ofNat_eq_natCast] at *;omega)|(dsimp only at *;omega)|(unfold I64;dsimp only at *;omega)|(unfold I64;grind)|grind)
 refine ⟨L.length-1,by omega,by omega,?_⟩
 repeat' first|(refine fun (b:Bool) hb=>?_;cases b<;>first|exact absurd hb (by decide)|exact nfl hb|exact nfr hb|skip)|(refine fun (hl:_≤MAXL)=>?_)|refine And.intro (a:=I64 _) ?_ ?_|refine ⟨(fun _=>rfl),?_⟩|refine ⟨rfl,?_⟩|fail
 ·have h:¬ L[L.length-1]=[]:=of_decide_eq_false (by assumption)
  conv=>whnf
  refine hK _ ?_
  rw [←hsl]
  unfold dropE
  rw [if_neg (by rw [List.getLast?_eq_getElem?,List.getElem?_eq_getElem (by omega)];simpa using h)]
 ·(first|omega|(unfold I64;omega)|(simp only [List.length_append,List.length_map,List.length_cons,List.length_nil,Nat.mul_one,Int.ofNat_eq_natCast] at *;omega)|(dsimp only at *;omega)|(unfold I64;dsimp only at *;omega)|(unfold I64;grind)|grind)
 have h:L[L.length-1]=[]:=of_decide_eq_true (by assumption)
 refine ⟨L.length-1,by omega,by omega,?_⟩
 skip
 refine hK _ ?_
 rw [←hsl]
 unfold dropE
 rw [if_pos (by rw [List.getLast?_eq_getElem?,List.getElem?_eq_getElem (by omega),h]),List.dropLast_eq_take]
end Gv
namespace Gv
variable [Glob] [Laid]
theorem joinS_ca:callable Tryz.prog 103=true:=by kernel_rfl
def joinS_S:Spec:=fun args K=>∃ (l:List Bs) (sep:Bs),args=[.sl strV l,.str sep]∧(l.length≤140737488355328∧(Lib.join l sep).length≤140737488355328)∧K (.str (Lib.join l sep))
theorem joinS_ok:Pure Tryz.prog 103 joinS_S:=by
 intro w m args us K hm hg hv hT
 obtain ⟨l,sep,rfl,⟨h1,h2⟩,hK⟩:=hT
 obtain ⟨a,b,rfl,ha,hb⟩:=args2 hv.1 hv.2
 obtain ⟨p,c,rfl,hlc,hc,hp⟩:=strs_open ha hm
 obtain ⟨rfl,-⟩:=vr_str hb
 by_cases hl:l=[]
 ·subst hl
  refine (Tryz.strings_Join_none p c (ba sep) w).mono fun e w' ⟨he,hw⟩=>?_
  subst hw
  exact ⟨_,_,he,Bel.refl _ _,hK,.str (s:=[]) (Nat.zero_le _)⟩
 ·obtain ⟨bk,o,rfl,hbk,hx,hx2⟩:=hp hl
  have e1:(l.map ba).map (fun x=>x.data.toList)=l:=by
   rw [List.map_map]
   conv=>rhs;rw [←List.map_id l]
   rfl
  have e2:(l.map ba).length=l.length:=List.length_map ..
  have:=Tryz.strings_Join bk o c (l.map ba) (ba sep) w (fun j x hj=>by
   rw [List.getElem?_map] at hj
   obtain ⟨y,hy,rfl⟩:=Option.map_eq_some_iff.1 hj
   exact hx j y hy) hbk (by rw [e2];exact h1) (by rw [e2];exact hlc) (by rw [e1];exact h2)
  rw [e1,e2] at this
  refine this.mono fun e w' ⟨he,hw⟩=>?_
  exact ⟨_,_,he,Bel.of_below hw,hK,.str (by have:=h2;unfold MAXL;show (Lib.join l sep).length≤_;omega)⟩
end Gv
namespace Gv
variable [Glob] [Laid]
theorem bytesOfR_ca:callable Tryz.prog 36=true:=by kernel_rfl
def bytesOfR_S:Spec:=fun args K=>∃ (l:List Bs),args=[.sl strV l]∧(put l).length≤1000000000∧K (.sl byteV (put l))
noncomputable def bytesOfR_lib:List (Nat × Spec):=[(103,joinS_S)]
noncomputable def bytesOfR_fns:List (Nat × FnI):=[]
noncomputable def bytesOfR_prims:List (Nat × PSpec):=[]
theorem bytesOfR_E:EnvOK ⟨Tryz.prog,tys,bytesOfR_lib,bytesOfR_fns,bytesOfR_prims,[]⟩:=env_ok mixed0 tys0 (.cons joinS_ca joinS_ok .nil) .nil .nil rfl
theorem bytesOfR_ok:Pure Tryz.prog 36 bytesOfR_S:=by
 refine pure_by bytesOfR_E 6 (fi:={fn:=Tryz.f36,hooks:=[],draws:=[]}) ⟨Tryz.func36,by kernel_rfl,by kernel_rfl⟩ ?_
 rintro _ K ⟨l,rfl,hz,hK⟩
 replace hK:∀ r,r=.sl byteV (put l)→K r:=fun r h=>h ▸ hK
 have hj:=join_put l
 have hjl:(Lib.join l [10]).length≤(put l).length:=by
  rw [←hj]
  split
  ·simp
  ·exact Nat.le_refl _
 have hll:=put_len (l:=l) (n:=1000000000) hz
 refine ⟨l,[10],rfl,⟨by omega,by omega⟩,?_⟩
 repeat' first|(refine fun (b:Bool) hb=>?_;cases b<;>first|exact absurd hb (by decide)|exact nfl hb|exact nfr hb|skip)|(refine fun (hl:_≤MAXL)=>?_)|refine And.intro (a:=_≤140737488355328) ?_ ?_|refine Opt.a ?_|fail
 ·omega
 ·conv=>whnf
  refine hK _ ?_
  rw [←hj,if_neg (by have:=of_decide_eq_false (by assumption:decide ((0:Int)<(l.length:Int))=false);omega)]
 all_goals have hp:0<l.length:=by have:=of_decide_eq_true (by assumption:decide ((0:Int)<(l.length:Int))=true);omega
 rw [if_pos hp] at hj
 conv=>whnf
 refine ⟨by show (Lib.join l [10]).length+1≤MAXL;unfold MAXL;omega,?_⟩
 repeat' first|refine And.intro (a:=_≤140737488355328) ?_ ?_|refine Opt.a ?_|fail
 ·show (Lib.join l [10]++[10]).length≤140737488355328
  rw [hj]
  omega
 conv=>whnf
 refine hK _ ?_
 show V.sl byteV (Lib.join l [10]++[10])=_
 rw [hj]
end Gv
namespace Gv
variable [Glob] [Laid]
theorem wholeR_ca:callable Tryz.prog 68=true:=by kernel_rfl
def wholeR_S:Spec:=fun args K=>∃ b:Bs,args=[.sl byteV b]∧b.length≤100000000∧K (.sl byteV (whole b))
noncomputable def wholeR_lib:List (Nat × Spec):=[(38,linesOfR_S),(36,bytesOfR_S)]
noncomputable def wholeR_fns:List (Nat × FnI):=[]
noncomputable def wholeR_prims:List (Nat × PSpec):=[]
theorem wholeR_E:EnvOK ⟨Tryz.prog,tys,wholeR_lib,wholeR_fns,wholeR_prims,[]⟩:=env_ok mixed0 tys0 (.cons linesOfR_ca linesOfR_ok (.cons bytesOfR_ca bytesOfR_ok .nil)) .nil .nil rfl
theorem wholeR_ok:Pure Tryz.prog 68 wholeR_S:=by
 refine pure_by wholeR_E 6 (fi:={fn:=Tryz.f68,hooks:=[],draws:=[]}) ⟨Tryz.func68,by kernel_rfl,by kernel_rfl⟩ ?_
 rintro _ K ⟨b,rfl,hb,hK⟩
 replace hK:∀ r,r=.sl byteV (whole b)→K r:=fun r h=>h ▸ hK
 have h1:=whole_len b
 repeat' (first|exact True.intro|refine ⟨_,LeL.refl _,?_⟩|refine ⟨_,_,_,LeL.refl _,?_⟩|(refine fun (b:Bool) hb=>?_;cases b<;>first|exact absurd hb (by decide)|exact nfl hb|exact nfr hb|skip)|(refine fun (hl:_≤MAXL)=>?_)|refine And.intro (a:=I64 _) ?_ ?_|refine And.intro (a:=_≤140737488355328) ?_ ?_|refine ⟨_,⟨rfl,rfl⟩,?_⟩|refine ⟨_,And.intro (a:=I64 _) ?_ ⟨rfl,rfl⟩,?_⟩|refine ⟨_,_,⟨rfl,rfl⟩,?_⟩|refine ⟨_,(fun _=>⟨rfl,rfl⟩),?_⟩|refine And.intro (a:=chkPend _ _ _ _ _ _) ?_ ?_|refine And.intro (a:=chkPast _ _ _ _ _ _ _ _) ?_ ?_|refine ⟨⟨rfl,rfl⟩,?_⟩|refine And.intro (And.intro rfl rfl) ?_|refine ⟨True.intro,?_⟩|refine ⟨_,⟨_,rfl,?_,rfl,rfl,rfl⟩,?_⟩|refine ⟨_,rfl,?_,rfl,?_⟩|refine ⟨_,(fun _=>rfl),rfl,?_⟩|refine ⟨(fun _=>rfl),?_⟩|refine ⟨rfl,?_⟩|refine Opt.a ?_|fail)
 refine ⟨b,rfl,by omega,?_⟩
 repeat' (first|exact True.intro|refine ⟨_,LeL.refl _,?_⟩|refine ⟨_,_,_,LeL.refl _,?_⟩|(refine fun (b:Bool) hb=>?_;cases b<;>first|exact absurd hb (by decide)|exact nfl hb|exact nfr hb|skip)|(refine fun (hl:_≤MAXL)=>?_)|refine And.intro (a:=I64 _) ?_ ?_|refine And.intro (a:=_≤140737488355328) ?_ ?_|refine ⟨_,⟨rfl,rfl⟩,?_⟩|refine ⟨_,And.intro (a:=I64 _) ?_ ⟨rfl,rfl⟩,?_⟩|refine ⟨_,_,⟨rfl,rfl⟩,?_⟩|refine ⟨_,(fun _=>⟨rfl,rfl⟩),?_⟩|refine And.intro (a:=chkPend _ _ _ _ _ _) ?_ ?_|refine And.intro (a:=chkPast _ _ _ _ _ _ _ _) ?_ ?_|refine ⟨⟨rfl,rfl⟩,?_⟩|refine And.intro (And.intro rfl rfl) ?_|refine ⟨True.intro,?_⟩|refine ⟨_,⟨_,rfl,?_,rfl,rfl,rfl⟩,?_⟩|refine ⟨_,rfl,?_,rfl,?_⟩|refine ⟨_,(fun _=>rfl),rfl,?_⟩|refine ⟨(fun _=>rfl),?_⟩|refine ⟨rfl,?_⟩|refine Opt.a ?_|fail)
 refine ⟨linesOf b,rfl,by show (whole b).length≤1000000000;omega,?_⟩
 repeat' (first|exact True.intro|refine ⟨_,LeL.refl _,?_⟩|refine ⟨_,_,_,LeL.refl _,?_⟩|(refine fun (b:Bool) hb=>?_;cases b<;>first|exact absurd hb (by decide)|exact nfl hb|exact nfr hb|skip)|(refine fun (hl:_≤MAXL)=>?_)|refine And.intro (a:=I64 _) ?_ ?_|refine And.intro (a:=_≤140737488355328) ?_ ?_|refine ⟨_,⟨rfl,rfl⟩,?_⟩|refine ⟨_,And.intro (a:=I64 _) ?_ ⟨rfl,rfl⟩,?_⟩|refine ⟨_,_,⟨rfl,rfl⟩,?_⟩|refine ⟨_,(fun _=>⟨rfl,rfl⟩),?_⟩|refine And.intro (a:=chkPend _ _ _ _ _ _) ?_ ?_|refine And.intro (a:=chkPast _ _ _ _ _ _ _ _) ?_ ?_|refine ⟨⟨rfl,rfl⟩,?_⟩|refine And.intro (And.intro rfl rfl) ?_|refine ⟨True.intro,?_⟩|refine ⟨_,⟨_,rfl,?_,rfl,rfl,rfl⟩,?_⟩|refine ⟨_,rfl,?_,rfl,?_⟩|refine ⟨_,(fun _=>rfl),rfl,?_⟩|refine ⟨(fun _=>rfl),?_⟩|refine ⟨rfl,?_⟩|refine Opt.a ?_|fail)
 exact hK _ rfl
end Gv
namespace Gv
variable [Glob] [Laid]
theorem sof_mul {a b c:Nat} (h:a*b≤c):(a:Int)*(b:Int)≤(c:Int):=by
 rw [←Int.natCast_mul]
 omega
theorem sof_div (k m n:Nat):((k:Int)*(m:Int)) / (n:Int)=((k*m / n:Nat):Int):=by
 rw [←Int.natCast_mul,←Int.natCast_ediv]
theorem splitOfR_ca:callable Tryz.prog 192=true:=by kernel_rfl
def splitOfR_S:Spec:=fun args K=>∃ (b:Bs) (n:Nat),args=[.sl byteV b,.int .i64 n]∧(b.length≤500000000∧1≤n∧n≤1000)∧K (.sl blV (splitLines (linesOf b) n))
noncomputable def splitOfR_lib:List (Nat × Spec):=[(38,linesOfR_S)]
noncomputable def splitOfR_fns:List (Nat × FnI):=[]
noncomputable def splitOfR_prims:List (Nat × PSpec):=[]
theorem splitOfR_E:EnvOK ⟨Tryz.prog,tys,splitOfR_lib,splitOfR_fns,splitOfR_prims,[]⟩:=env_ok mixed0 tys0 (.cons linesOfR_ca linesOfR_ok .nil) .nil .nil rfl
set_option maxHeartbeats 40000000 in
theorem splitOfR_ok:Pure Tryz.prog 192 splitOfR_S:=by
 refine pure_by splitOfR_E 6 (fi:={fn:=Tryz.f192,hooks:=[11],draws:=[]}) ⟨Tryz.func192,by kernel_rfl,by kernel_rfl⟩ ?_
 rintro _ K ⟨b,n,rfl,⟨hb,hn1,hn2⟩,hK⟩
 replace hK:∀ r,r=.sl blV (splitLines (linesOf b) n)→K r:=fun r h=>h ▸ hK
 have hll:=linesOf_len b
 have hpl:=whole_len b
 have hel:=linesOf_el b
 unfold whole at hpl
 refine ⟨b,rfl,by omega,?_⟩
 obtain ⟨L,hL⟩:∃ L,linesOf b=L:=⟨_,rfl⟩
 rw [hL] at hll hpl hel hK ⊢
 repeat' first|refine ⟨rfl,?_⟩|fail
 refine ⟨n,rfl,?_,?_⟩
 ·show n*24≤140737488355328
  omega
 skip
 conv=>whnf
 refine join_live [6] (σ:=Nat × Option Bs) (fun _=>[]) (fun s=>[.row 1 (sofFin L n s.1 s.2)]) (fun s=>sofI L n L.length s.1 s.2) ?_
 conv=>whnf
 refine ⟨?_,fun s hs=>?_⟩
 rotate_left
 ·skip
  refine ⟨Bs,blV,splitLines L n,sofFin_end hs,?_⟩
  exact hK _ rfl
 repeat' first|(refine fun (hl:_≤MAXL)=>?_)|fail
 conv=>whnf
 refine loop_live [1,5,6,14,15] (σ:=Nat × Nat × Option Bs) (fun s=>[(16,.int .i64 s.1),(7,.int .i64 s.2.1)]) (fun s=>[.rowq 1 (sofEls L n s.2.1 s.2.2),sofRow s.2.2]) (fun s=>sofI L n s.1 s.2.1 s.2.2) (fun s=>L.length-s.1) (0,0,none) ?_
 conv=>whnf
 refine ⟨?_,⟨Nat.zero_le _,hn1,by simp,by simp,by simp [put]⟩,fun s hs=>?_⟩
 ·refine wk_sel [some 0,some 0] rfl rfl ⟨⟨rfl,sofEls_0 hn1⟩,trivial,trivial⟩ ?_
  (repeat' first|exact True.intro|exact rfl|exact .inl rfl|exact .inr rfl|refine And.intro ?_ ?_|fail)
 obtain ⟨i,k,c⟩:=s
 dsimp only at hs
 have hsi:=hs.1
 have hsk:=hs.2.1
 repeat' first|(refine fun (b:Bool) hb=>?_;cases b<;>first|exact absurd hb (by decide)|exact nfl hb|exact nfr hb|skip)|refine ⟨_,rfl,?_,rfl,?_⟩|fail
 ·have h:=of_decide_eq_false (by assumption:decide ((i:Int)<(L.length:Int))=false)
  have e:i=L.length:=by omega
  subst e
  refine ⟨(k,c),?_,hs⟩
  cases c with
  | none =>
   refine wk_sel [some 0] rfl rfl ⟨⟨rfl,rfl,sofFin_pure L n k none⟩,trivial⟩ ?_
   (repeat' first|exact True.intro|exact rfl|exact .inl rfl|exact .inr rfl|refine And.intro ?_ ?_|fail)
  | some b =>
   refine (wk_fz 1 rfl (LeL.refl _)).trans ((wk_fzq 0 1 k 1 rfl rfl (sofEls_get L n k (some b))).trans ?_)
   refine wk_sel [some 0] rfl rfl ⟨⟨rfl,sofEls_set L n k (some b) (blV b),?_⟩,trivial⟩ ?_
   ·rw [show (sofEls L n k (some b)).set k (.sl byteV b)=sofFin L n k (some b) from sofEls_set L n k (some b) (blV b)]
    exact sofFin_pure L n k (some b)
   ·(repeat' first|exact True.intro|exact rfl|exact .inl rfl|exact .inr rfl|refine And.intro ?_ ?_|fail)
 ·have h:=of_decide_eq_true (by assumption:decide ((i:Int)<(L.length:Int))=true)
  show i<L.length
  omega
 have hlt:i<L.length:=by
  have h:=of_decide_eq_true (by assumption:decide ((i:Int)<(L.length:Int))=true)
  omega
 conv=>whnf
 refine loop_live [1,5,6,8,9,14,15,16] (σ:=Nat × Option Bs) (fun s=>[(7,.int .i64 s.1)]) (fun s=>[.rowq 1 (sofEls L n s.1 s.2),sofRow s.2]) (fun s=>sofI L n i s.1 s.2) (fun s=>n-s.1) (k,c) ?_
 conv=>whnf
 refine ⟨?_,hs,fun s hs=>?_⟩
 ·cases c with
  | none =>
   refine wk_sel [some 0,some 0] rfl rfl ⟨⟨rfl,sof_same0 L n k⟩,trivial,trivial⟩ ?_
   (repeat' first|exact True.intro|exact rfl|exact .inl rfl|exact .inr rfl|refine And.intro ?_ ?_|fail)
  | some b =>
   refine wk_sel [some 0,some 1] rfl rfl ⟨⟨rfl,sof_same1 L n k b b rfl⟩,rfl,trivial⟩ ?_
   (repeat' first|exact True.intro|exact rfl|exact .inl rfl|exact .inr rfl|refine And.intro ?_ ?_|fail)
 clear hsi hsk
 obtain ⟨k,c⟩:=s
 dsimp only at hs
 have hsk:=hs.2.1
 have hml:(k+1)*L.length≤1000*1000000000:=Nat.mul_le_mul (show k+1≤1000 by omega) (show L.length≤1000000000 by omega)
 have hml2:((k:Int)+1)*(L.length:Int)≤((1000000000000:Nat):Int):=sof_mul hml
 have hml0:0≤((k:Int)+1)*L.length:=Int.mul_nonneg (by omega) (by omega)
 have hdv:=sof_div (k+1) L.length n
 repeat' first|(refine fun (hl:_≤MAXL)=>?_)|refine And.intro (a:=I64 _) ?_ ?_|fail
 ·dsimp only
  unfold I64
  omega
 ·dsimp only
  unfold I64
  omega
 refine ⟨⟨hml0,by dsimp only;omega,by omega⟩,?_⟩
 repeat' first|(refine fun (b:Bool) hb=>?_;cases b<;>first|exact absurd hb (by decide)|exact nfl hb|exact nfr hb|skip)|refine And.intro (a:=I64 _) ?_ ?_|refine ⟨rfl,?_⟩|fail
 ·
  have h:¬ ((k:Int)+1)*(L.length:Int) / (n:Int)≤(i:Int):=of_decide_eq_false (by assumption)
  have hik:i<(k+1)*L.length / n:=by
   have e:((k:Int)+1)*(L.length:Int) / (n:Int)=(((k+1)*L.length / n:Nat):Int):=hdv
   omega
  have hnx:=sofI_step hs hlt hik
  have hLi:L[i].length≤b.length:=hel _ (List.getElem_mem hlt)
  have hlen:k<(sofEls L n k c).length:=by rw [sofEls_len hsk];exact hsk
  refine ⟨k,rfl,hlen,?_⟩
  cases c with
  | none =>
   refine ⟨_,sofEls_get L n k none,?_⟩
   refine ⟨by show L[i].length+1≤MAXL;unfold MAXL;omega,?_⟩
   repeat' first|refine And.intro (a:=_≤140737488355328) ?_ ?_|refine ⟨rfl,?_⟩|fail
   ·show (List.map byteV (L[i]++[10])).length*1≤140737488355328
    rw [List.length_map,List.length_append]
    simp only [List.length_cons,List.length_nil]
    omega
   refine ⟨k,rfl,hlen,?_⟩
   conv=>whnf
   refine ⟨hlen,?_⟩
   repeat' first|refine And.intro (a:=I64 _) ?_ ?_|fail
   ·dsimp only
    unfold I64
    omega
   refine ⟨(i+1,k,some (L[i]++[10])),?_,hnx,by dsimp only;omega⟩
   refine wk_sel [some 0,some 2] rfl rfl ⟨⟨rfl,sof_wk L n k none (some (L[i]++[10])) (v:=.own 2) (v':=.own 1) rfl rfl rfl rfl⟩,rfl,trivial⟩ ?_
   (repeat' first|exact True.intro|exact rfl|exact .inl rfl|exact .inr rfl|refine And.intro ?_ ?_|fail)
  | some d =>
   have hd:d.length≤1000000001:=by
    have h5:=hs.2.2.2.2
    have:d=put ((L.take i).drop (k*L.length / n)):=h5
    rw [this]
    exact Nat.le_trans (put_sub ((List.drop_sublist _ _).trans (List.take_sublist _ _))) (by omega)
   refine ⟨_,sofEls_get L n k (some d),?_⟩
   refine ⟨by show L[i].length+1≤MAXL;unfold MAXL;omega,?_⟩
   repeat' first|refine And.intro (a:=_≤140737488355328) ?_ ?_|refine ⟨rfl,?_⟩|fail
   ·show ((List.map byteV d).length+(List.map byteV (L[i]++[10])).length)*1≤140737488355328
    rw [List.length_map,List.length_map,List.length_append]
    simp only [List.length_cons,List.length_nil]
    omega
   refine ⟨k,rfl,hlen,?_⟩
   conv=>whnf
   refine ⟨hlen,?_⟩
   repeat' first|refine And.intro (a:=I64 _) ?_ ?_|fail
   ·dsimp only
    unfold I64
    omega
   refine ⟨(i+1,k,some (d++(L[i]++[10]))),?_,hnx,by dsimp only;omega⟩
   refine wk_sel [some 0,some 2] rfl rfl ⟨⟨rfl,sof_wk L n k (some d) (some (d++(L[i]++[10]))) (v:=.own 2) (v':=.own 1) rfl rfl rfl rfl⟩,?_,trivial⟩ ?_
   ·show Row.row 1 _=Row.row 1 _
    rw [List.map_append]
   ·(repeat' first|exact True.intro|exact rfl|exact .inl rfl|exact .inr rfl|refine And.intro ?_ ?_|fail)
 ·dsimp only
  unfold I64
  omega
 ·have h:((k:Int)+1)*(L.length:Int) / (n:Int)≤(i:Int):=of_decide_eq_true (by assumption)
  have hik:(k+1)*L.length / n≤i:=by
   have e:((k:Int)+1)*(L.length:Int) / (n:Int)=(((k+1)*L.length / n:Nat):Int):=hdv
   omega
  obtain ⟨hn1,hn2⟩:=sofI_next hs hlt hik
  refine ⟨(k+1,none),?_,hn2,by dsimp only;omega⟩
  cases c with
  | none =>
   refine wk_sel [some 0,some 0] rfl rfl ⟨⟨rfl,?_⟩,trivial,trivial⟩ ?_
   ·have e:=sofEls_next (L:=L) hn2.2.1
    rw [←hn1] at e
    rw [←e]
    refine wkEls_app (wkEls_pure fun x hx w hw=>?_) (wkEls_cons ⟨rfl,trivial⟩ (wkEls_pure fun x hx w hw=>?_))
    ·obtain ⟨j,-,rfl⟩:=List.mem_map.1 hx
     simp [blV,V.cells] at hw
     subst hw;rfl
    ·rw [List.eq_of_mem_replicate hx] at hw
     simp [V.cells] at hw
     subst hw;rfl
   ·(repeat' first|exact True.intro|exact rfl|exact .inl rfl|exact .inr rfl|refine And.intro ?_ ?_|fail)
  | some d =>
   refine (wk_fz 1 rfl (LeL.refl _)).trans ((wk_fzq 0 1 k 1 rfl rfl (sofEls_get L n k (some d))).trans ?_)
   refine wk_sel [some 0,some 0] rfl rfl ⟨⟨rfl,?_⟩,trivial,trivial⟩ ?_
   ·have e:=sofEls_next (L:=L) hn2.2.1
    rw [←hn1] at e
    rw [←e]
    show wkEls _ ((sofEls L n k (some d)).set k (blV d)) _
    rw [sofEls_set]
    refine wkEls_pure fun x hx w hw=>?_
    simp only [List.mem_append,List.mem_map,List.mem_cons] at hx
    rcases hx with ⟨j,-,rfl⟩|rfl|hx
    ·simp [blV,V.cells] at hw
     subst hw;rfl
    ·simp [blV,V.cells] at hw
     subst hw;rfl
    ·rw [List.eq_of_mem_replicate hx] at hw
     simp [V.cells] at hw
     subst hw;rfl
   ·(repeat' first|exact True.intro|exact rfl|exact .inl rfl|exact .inr rfl|refine And.intro ?_ ?_|fail)
end Gv
namespace Gv
variable [Glob] [Laid] [Nums]
theorem madeR_ca:callable Tryz.prog 37=true:=by kernel_rfl
def madeR_S:Spec:=fun args K=>∃ (c:Cmd) (l:List Bs),args=[cmdV c,.sl strV l]∧(checkCmd c=0∧l.length≤900000000∧∀ s∈l,s.length≤900000000)∧K (.sl strV (linesC c l))
noncomputable def madeR_lib:List (Nat × Spec):=[(104,containsS_S),(105,splitS_S),(107,itoa_S)]
noncomputable def madeR_fns:List (Nat × FnI):=[(106,{fn:=Tryz.f106,hooks:=[],draws:=[]})]
noncomputable def madeR_prims:List (Nat × PSpec):=[(159,sortS_P)]
theorem madeR_E:EnvOK ⟨Tryz.prog,tys,madeR_lib,madeR_fns,madeR_prims,[]⟩:=env_ok mixed0 tys0 (.cons containsS_ca containsS_ok (.cons splitS_ca splitS_ok (.cons itoa_ca itoa_ok .nil))) (.cons (by kernel_rfl) ⟨Tryz.func106,by kernel_rfl,by kernel_rfl⟩ .nil) (.cons sortS_prim .nil) rfl
set_option maxHeartbeats 40000000 in
theorem madeR_ok:Pure Tryz.prog 37 madeR_S:=by
 refine pure_by madeR_E 6 (fi:={fn:=Tryz.f37,hooks:=[40],draws:=[(16,[0,0,3,7,0,16,48,127])]}) ⟨Tryz.func37,by kernel_rfl,by kernel_rfl⟩ ?_
 rintro _ K ⟨c,l,rfl,⟨hc,hlc,hs⟩,hK⟩
 replace hK:∀ r,r=.sl strV (linesC c l)→K r:=fun r h=>h ▸ hK
 have hkind:1≤c.kind∧c.kind≤10:=by
  unfold checkCmd at hc
  grind
 repeat' first|(refine fun (hl:_≤MAXL)=>?_)|fail
 conv=>whnf
 refine loop_live [1,2,14,15] (σ:=Nat × List Bs) (fun s=>[(16,.int .i64 s.1),(5,.own 1)]) (fun s=>[.box (cmdV c).cells,.row 1 (s.2.map strV)]) (fun s=>s.2=accM c l s.1∧s.1≤l.length) (fun s=>l.length-s.1) (0,[]) ?_
 conv=>whnf
 refine ⟨(by (refine wk_auto ?_;refine Sel4.mk rfl rfl ?_ ?_<;>(repeat' first|exact True.intro|exact rfl|exact .inl rfl|exact .inr rfl|refine And.intro ?_ ?_|fail))),⟨(accM_0 c l).symm,Nat.zero_le _⟩,fun s hs=>?_⟩
 obtain ⟨i,out⟩:=s
 obtain ⟨ho,hi⟩:=hs
 dsimp only at ho hi
 have hol:out.length≤900000000:=by rw [ho];exact Nat.le_trans (accM_len c l i hi) hlc
 repeat' first|refine ⟨_,_,_,LeL.refl _,?_⟩|(refine fun (b:Bool) hb=>?_;cases b<;>first|exact absurd hb (by decide)|exact nfl hb|exact nfr hb|skip)|(refine fun (hl:_≤MAXL)=>?_)|refine ⟨_,rfl,?_,rfl,?_⟩|fail
 ·
  have h:¬ (i:Int)<(l.length:Int):=of_decide_eq_false (by assumption)
  have e:i=l.length:=by omega
  have h6:c.kind≠6:=of_decide_eq_false (by assumption)
  have h8:c.kind≠8:=of_decide_eq_false (by assumption)
  rw [e,accM_end h6 h8] at ho
  conv=>whnf
  exact hK _ (by rw [←ho])
 ·have h8:c.kind=8:=of_decide_eq_true (by assumption)
  refine ⟨l.length,rfl,⟨by omega,by omega⟩,?_⟩
  skip
  refine ⟨Bs,strV,[Lib.itoa l.length],LeL.refl _,?_⟩
  refine hK _ ?_
  unfold linesC
  rw [if_neg (by omega),if_neg (by omega),if_pos h8]
 ·have h6:c.kind=6:=of_decide_eq_true (by assumption)
  skip
  have h:¬ (i:Int)<(l.length:Int):=of_decide_eq_false (by assumption)
  have e:i=l.length:=by omega
  have ho6:out=l:=by rw [ho,e];unfold accM;rw [if_pos h6,List.take_length]
  refine .inl ⟨out,rfl,rfl,by omega,?_⟩
  repeat' first|refine ⟨_,_,_,LeL.refl _,?_⟩|(refine fun (b:Bool) hb=>?_;cases b<;>first|exact absurd hb (by decide)|exact nfl hb|exact nfr hb|skip)|(refine fun (hl:_≤MAXL)=>?_)|fail
  ·refine hK _ ?_
   unfold linesC
   rw [if_pos h6,ho6]
  ·have h8:c.kind=8:=of_decide_eq_true (by assumption)
   omega
 ·have h:=of_decide_eq_true (by assumption:decide ((i:Int)<(l.length:Int))=true)
  show i<l.length
  omega
 have hlt:i<l.length:=by
  have h:=of_decide_eq_true (by assumption:decide ((i:Int)<(l.length:Int))=true)
  omega
 have hsi:=hs _ (List.getElem_mem hlt)
 conv=>whnf
 refine join_live [1,2,5,14,15,16] (σ:=Bs × Bool) (fun s=>[(7,.str s.1),(8,.bool s.2)]) (fun _=>[.box (cmdV c).cells,.row 1 (out.map strV)]) (fun s=>accM c l (i+1)=out++(if s.2=true then [s.1] else [])) ?_
 conv=>whnf
 refine ⟨?_,fun s hst=>?_⟩
 ·have hk10:c.kind=1∨c.kind=2∨c.kind=3∨c.kind=4∨c.kind=5∨c.kind=6∨c.kind=7∨c.kind=8∨c.kind=9∨c.kind=10:=by omega
  obtain ⟨ck,cw,cn⟩:=c
  dsimp only at hk10
  rcases hk10 with rfl|rfl|rfl|rfl|rfl|rfl|rfl|rfl|rfl|rfl
  ·repeat' first|(refine fun (b:Bool) hb=>?_;cases b<;>first|exact absurd hb (by decide)|exact nfl hb|exact nfr hb|skip)|fail
   refine ⟨l[i],cw,rfl,by omega,?_⟩
   skip
   refine ⟨(l[i],Lib.contains l[i] cw),(by (refine wk_auto ?_;refine Sel4.mk rfl rfl ?_ ?_<;>(repeat' first|exact True.intro|exact rfl|exact .inl rfl|exact .inr rfl|refine And.intro ?_ ?_|fail))),?_⟩
   rw [accM_each hlt (by show (1:Int)<6;decide),←ho]
   cases h:Lib.contains l[i] cw<;>simp [oneC,h]
  ·repeat' first|(refine fun (b:Bool) hb=>?_;cases b<;>first|exact absurd hb (by decide)|exact nfl hb|exact nfr hb|skip)|fail
   refine ⟨l[i],cw,rfl,by omega,?_⟩
   skip
   refine ⟨(l[i],!Lib.contains l[i] cw),(by (refine wk_auto ?_;refine Sel4.mk rfl rfl ?_ ?_<;>(repeat' first|exact True.intro|exact rfl|exact .inl rfl|exact .inr rfl|refine And.intro ?_ ?_|fail))),?_⟩
   rw [accM_each hlt (by show (2:Int)<6;decide),←ho]
   cases h:Lib.contains l[i] cw<;>simp [oneC,h]
  ·obtain ⟨x,y,hw⟩:=word2 hc rfl
   dsimp only at hw
   subst hw
   repeat' first|(refine fun (b:Bool) hb=>?_;cases b<;>first|exact absurd hb (by decide)|exact nfl hb|exact nfr hb|skip)|(refine fun (hl:_≤MAXL)=>?_)|refine And.intro (a:=_≤140737488355328) ?_ ?_|refine Opt.b ?_|fail
   ·exact Nat.le_trans hsi (by decide)
   skip
   conv=>whnf
   refine loop_live [1,2,5,8,9,14,15,16,41] (σ:=Nat × Bs) (fun s=>[(42,.int .i64 s.1),(9,.own 2)]) (fun s=>[.box (cmdV ⟨3,[x,y],cn⟩).cells,.row 1 (out.map strV),.row 1 (s.2.map byteV)]) (fun s=>s.2=(l[i].take s.1).map (fun z=>if z=x then y else z)++l[i].drop s.1∧s.1≤l[i].length) (fun s=>l[i].length-s.1) (0,l[i]) ?_
   conv=>whnf
   refine ⟨(by (refine wk_auto ?_;refine Sel4.mk rfl rfl ?_ ?_<;>(repeat' first|exact True.intro|exact rfl|exact .inl rfl|exact .inr rfl|refine And.intro ?_ ?_|fail))),⟨by simp,Nat.zero_le _⟩,fun s hs=>?_⟩
   obtain ⟨k,d⟩:=s
   obtain ⟨hd,hk⟩:=hs
   dsimp only at hd hk
   have hdl:d.length=l[i].length:=by rw [hd];simp;omega
   repeat' first|(refine fun (b:Bool) hb=>?_;cases b<;>first|exact absurd hb (by decide)|exact nfl hb|exact nfr hb|skip)|refine ⟨_,⟨rfl,rfl⟩,?_⟩|fail
   ·have hge:¬ (k:Int)<((l[i].map byteV).length:Int):=of_decide_eq_false (by assumption)
    rw [List.length_map] at hge
    have ek:k=l[i].length:=by omega
    refine ⟨d,rfl,rfl,?_⟩
    skip
    refine ⟨(d,true),(by (refine wk_auto ?_;refine Sel4.mk rfl rfl ?_ ?_<;>(repeat' first|exact True.intro|exact rfl|exact .inl rfl|exact .inr rfl|refine And.intro ?_ ?_|fail))),?_⟩
    rw [accM_each hlt (by show (3:Int)<6;decide),←ho,hd,ek]
    rw [one_3]
    simp
   have hkl:k<l[i].length:=by
    have h:=of_decide_eq_true (by assumption:decide ((k:Int)<((l[i].map byteV).length:Int))=true)
    rw [List.length_map] at h
    omega
   have hkd:k<d.length:=by omega
   have gk:(List.map byteV d)[k]?=some (byteV d[k]):=by rw [List.getElem?_map,List.getElem?_eq_getElem hkd];rfl
   have edk:d[k]=l[i][k]:=mp_eq hkl hd hkd
   have hnx:=mp_set (fun z=>if z=x then y else z) hkl
   rw [←hd,←edk] at hnx
   conv=>whnf
   refine ⟨_,⟨rfl,k,rfl,by simpa using hkd,⟨rfl,rfl⟩⟩,?_⟩
   repeat' first|exact True.intro|refine And.intro (a:=chkPast _ _ _ _ _ _ _ _) ?_ ?_|fail
   conv=>whnf
   refine ⟨_,⟨_,gk,⟨rfl,rfl⟩⟩,?_⟩
   repeat' first|exact True.intro|refine ⟨_,⟨rfl,rfl⟩,?_⟩|refine And.intro (a:=chkPast _ _ _ _ _ _ _ _) ?_ ?_|fail
   conv=>whnf
   refine ⟨_,⟨0,rfl,(by show 0<2;decide),rfl,rfl⟩,?_⟩
   repeat' first|exact True.intro|(refine fun (b:Bool) hb=>?_;cases b<;>first|exact absurd hb (by decide)|exact nfl hb|exact nfr hb|skip)|refine And.intro (a:=I64 _) ?_ ?_|refine ⟨_,⟨rfl,rfl⟩,?_⟩|refine And.intro (a:=chkPast _ _ _ _ _ _ _ _) ?_ ?_|refine ⟨_,rfl,?_,rfl,?_⟩|fail
   ·unfold I64
    dsimp only
    omega
   ·have hne:¬ ((d[k].toNat:Int)=(x.toNat:Int)):=of_decide_eq_false (by assumption)
    have hne2:¬ d[k]=x:=fun e=>hne (by rw [e])
    refine ⟨(k+1,d),(by (refine wk_auto ?_;refine Sel4.mk rfl rfl ?_ ?_<;>(repeat' first|exact True.intro|exact rfl|exact .inl rfl|exact .inr rfl|refine And.intro ?_ ?_|fail))),⟨?_,hkl⟩,?_⟩
    ·show d=_
     rw [hnx,if_neg hne2,List.set_getElem_self]
    ·show l[i].length-(k+1)<l[i].length-k
     omega
   ·show 2≤2
    decide
   have heq:((d[k].toNat:Int)=(x.toNat:Int)):=of_decide_eq_true (by assumption)
   have heq2:d[k]=x:=UInt8.toNat_inj.1 (by omega)
   rw [if_pos heq2] at hnx
   refine ⟨k,rfl,by simpa using hkd,?_⟩
   conv=>whnf
   refine ⟨by simpa using hkd,?_⟩
   repeat' first|refine And.intro (a:=I64 _) ?_ ?_|fail
   ·unfold I64
    dsimp only
    omega
   refine ⟨(k+1,d.set k y),?_,⟨?_,hkl⟩,?_⟩
   rotate_left
   ·show d.set k y=_
    rw [hnx]
   ·show l[i].length-(k+1)<l[i].length-k
    omega
   (refine wk_auto ?_;refine Sel4.mk rfl rfl ?_ ?_<;>(repeat' first|exact True.intro|exact rfl|exact .inl rfl|exact .inr rfl|refine And.intro ?_ ?_|fail))
   show Row.row 1 _=Row.row 1 _
   simp [List.map_set]
   rfl
  ·have hn1:1≤cn∧cn≤1000 := by
    unfold checkCmd useN at hc
    grind
   have hsn:0<(Lib.split l[i] [32]).length:=List.length_pos_iff.2 (split_ne l[i] [32])
   repeat' first|(refine fun (b:Bool) hb=>?_;cases b<;>first|exact absurd hb (by decide)|exact nfl hb|exact nfr hb|skip)|fail
   refine ⟨l[i],[32],rfl,⟨by omega,by decide⟩,?_⟩
   repeat' first|(refine fun (b:Bool) hb=>?_;cases b<;>first|exact absurd hb (by decide)|exact nfl hb|exact nfr hb|skip)|(refine fun (hl:_≤MAXL)=>?_)|refine And.intro (a:=I64 _) ?_ ?_|fail
   ·have hle:¬ cn≤((Lib.split l[i] [32]).length:Int):=of_decide_eq_false (by assumption)
    refine ⟨([],true),(by (refine wk_auto ?_;refine Sel4.mk rfl rfl ?_ ?_<;>(repeat' first|exact True.intro|exact rfl|exact .inl rfl|exact .inr rfl|refine And.intro ?_ ?_|fail))),?_⟩
    rw [accM_each hlt (by show (4:Int)<6;decide),←ho]
    have h2:((Lib.split l[i] [32]).length:Int)<cn:=by omega
    simp [oneC,h2]
   ·unfold I64
    dsimp only
    omega
   ·have hle:cn≤((Lib.split l[i] [32]).length:Int):=of_decide_eq_true (by assumption)
    have hj:(cn-1).toNat<(Lib.split l[i] [32]).length:=by omega
    refine ⟨(cn-1).toNat,by show cn-1=_;omega,hj,rfl,?_⟩
    skip
    refine ⟨((Lib.split l[i] [32])[(cn-1).toNat],true),(by (refine wk_auto ?_;refine Sel4.mk rfl rfl ?_ ?_<;>(repeat' first|exact True.intro|exact rfl|exact .inl rfl|exact .inr rfl|refine And.intro ?_ ?_|fail))),?_⟩
    rw [accM_each hlt (by show (4:Int)<6;decide),←ho]
    have h2:¬ ((Lib.split l[i] [32]).length:Int)<cn:=by omega
    have e:(Lib.split l[i] [32]).getD (cn-1).toNat []=(Lib.split l[i] [32])[(cn-1).toNat]:=by rw [List.getD_eq_getElem?_getD,List.getElem?_eq_getElem hj];rfl
    unfold oneC
    simp only [show ¬ (4:Int)=1 by decide,show ¬ (4:Int)=2 by decide,show ¬ (4:Int)=3 by decide,if_false,if_true,if_neg h2,e]
  ·repeat' first|(refine fun (b:Bool) hb=>?_;cases b<;>first|exact absurd hb (by decide)|exact nfl hb|exact nfr hb|skip)|(refine fun (hl:_≤MAXL)=>?_)|refine And.intro (a:=I64 _) ?_ ?_|fail
   ·unfold I64
    dsimp only
    omega
   conv=>whnf
   refine loop_live [1,2,5,7,8,14,15,16] (σ:=Int × Bs) (fun s=>[(13,.int .i64 s.1),(12,.str s.2)]) (fun _=>[.box (cmdV ⟨5,cw,cn⟩).cells,.row 1 (out.map strV)]) (fun s=>s.2=(l[i].drop (s.1+1).toNat).reverse∧-1≤s.1∧s.1<(l[i].length:Int)) (fun s=>(s.1+1).toNat) ((l[i].length:Int)-1,[]) ?_
   conv=>whnf
   refine ⟨(by (refine wk_auto ?_;refine Sel4.mk rfl rfl ?_ ?_<;>(repeat' first|exact True.intro|exact rfl|exact .inl rfl|exact .inr rfl|refine And.intro ?_ ?_|fail))),⟨by simp,by dsimp only;omega,by dsimp only;omega⟩,fun s hs=>?_⟩
   obtain ⟨k,t⟩:=s
   obtain ⟨ht,hk1,hk2⟩:=hs
   dsimp only at ht hk1 hk2
   repeat' first|(refine fun (b:Bool) hb=>?_;cases b<;>first|exact absurd hb (by decide)|exact nfl hb|exact nfr hb|skip)|refine And.intro (a:=I64 _) ?_ ?_|fail
   ·have hge:¬ (0:Int)≤k:=of_decide_eq_false (by assumption)
    refine ⟨(t,true),(by (refine wk_auto ?_;refine Sel4.mk rfl rfl ?_ ?_<;>(repeat' first|exact True.intro|exact rfl|exact .inl rfl|exact .inr rfl|refine And.intro ?_ ?_|fail))),?_⟩
    rw [accM_each hlt (by show (5:Int)<6;decide),←ho,ht,show (k+1).toNat=0 by omega,List.drop_zero]
    rw [one_5]
    rfl
   ·unfold I64
    dsimp only
    omega
   have hge:(0:Int)≤k:=of_decide_eq_true (by assumption)
   obtain ⟨j,rfl⟩:∃ j:Nat,k=(j:Int):=⟨k.toNat,by omega⟩
   have hj:j<l[i].length:=by omega
   refine ⟨j,j+1,rfl,rfl,by omega,hj,?_⟩
   have hsl:=one_slice hj
   have hnx:=turn_next hj ht
   have htl:t.length≤l[i].length:=by rw [ht];simp
   rw [hsl]
   skip
   refine ⟨by show t.length+1≤MAXL;unfold MAXL;omega,?_⟩
   repeat' first|refine And.intro (a:=I64 _) ?_ ?_|fail
   ·unfold I64
    dsimp only
    omega
   refine ⟨((j:Int)-1,t++[l[i][j]]),(by (refine wk_auto ?_;refine Sel4.mk rfl rfl ?_ ?_<;>(repeat' first|exact True.intro|exact rfl|exact .inl rfl|exact .inr rfl|refine And.intro ?_ ?_|fail))),⟨?_,by dsimp only;omega,by dsimp only;omega⟩,by dsimp only;omega⟩
   show t++[l[i][j]]=(l[i].drop ((j:Int)-1+1).toNat).reverse
   rw [show ((j:Int)-1+1).toNat=j by omega]
   exact hnx
  ·repeat' first|(refine fun (b:Bool) hb=>?_;cases b<;>first|exact absurd hb (by decide)|exact nfl hb|exact nfr hb|skip)|fail
   refine ⟨(l[i],true),(by (refine wk_auto ?_;refine Sel4.mk rfl rfl ?_ ?_<;>(repeat' first|exact True.intro|exact rfl|exact .inl rfl|exact .inr rfl|refine And.intro ?_ ?_|fail))),?_⟩
   rw [accM_6 hlt rfl,←ho]
   simp
  ·repeat' first|(refine fun (b:Bool) hb=>?_;cases b<;>first|exact absurd hb (by decide)|exact nfl hb|exact nfr hb|skip)|refine And.intro (a:=I64 _) ?_ ?_|fail
   ·unfold I64
    dsimp only
    omega
   ·have h0:¬ (i:Int)=0:=of_decide_eq_false (by assumption)
    refine ⟨i-1,by show (i:Int)-1=_;omega,by omega,rfl,?_⟩
    skip
    refine ⟨(l[i],!decide (l[i-1]=l[i])),(by (refine wk_auto ?_;refine Sel4.mk rfl rfl ?_ ?_<;>(repeat' first|exact True.intro|exact rfl|exact .inl rfl|exact .inr rfl|refine And.intro ?_ ?_|fail))),?_⟩
    rw [accM_7 hlt rfl,←ho]
    have e:l.getD (i-1) []=l[i-1]:=by rw [List.getD_eq_getElem?_getD,List.getElem?_eq_getElem (by omega)];rfl
    rw [e]
    by_cases hq:l[i-1]=l[i]
    ·rw [if_neg (by rintro (h|h);exact h0 (by omega);exact h hq)]
     simp [hq]
    ·rw [if_pos (.inr hq)]
     simp [hq]
   ·have h0:(i:Int)=0:=of_decide_eq_true (by assumption)
    skip
    refine ⟨(l[i],true),(by (refine wk_auto ?_;refine Sel4.mk rfl rfl ?_ ?_<;>(repeat' first|exact True.intro|exact rfl|exact .inl rfl|exact .inr rfl|refine And.intro ?_ ?_|fail))),?_⟩
    rw [accM_7 hlt rfl,←ho,if_pos (.inl (by omega))]
    simp
  ·repeat' first|(refine fun (b:Bool) hb=>?_;cases b<;>first|exact absurd hb (by decide)|exact nfl hb|exact nfr hb|skip)|fail
   refine ⟨(l[i],false),(by (refine wk_auto ?_;refine Sel4.mk rfl rfl ?_ ?_<;>(repeat' first|exact True.intro|exact rfl|exact .inl rfl|exact .inr rfl|refine And.intro ?_ ?_|fail))),?_⟩
   rw [accM_8 rfl,ho,accM_8 rfl]
   simp
  ·repeat' first|(refine fun (b:Bool) hb=>?_;cases b<;>first|exact absurd hb (by decide)|exact nfl hb|exact nfr hb|skip)|fail
   refine ⟨(l[i],decide ((i:Int)<cn)),(by (refine wk_auto ?_;refine Sel4.mk rfl rfl ?_ ?_<;>(repeat' first|exact True.intro|exact rfl|exact .inl rfl|exact .inr rfl|refine And.intro ?_ ?_|fail))),?_⟩
   rw [accM_9 hlt rfl,←ho]
   simp
  ·have hn0:0≤cn := by
    unfold checkCmd useN at hc
    grind
   have hn1:cn≤1000:=by
    unfold checkCmd useN at hc
    grind
   repeat' first|(refine fun (b:Bool) hb=>?_;cases b<;>first|exact absurd hb (by decide)|exact nfl hb|exact nfr hb|skip)|(refine fun (hl:_≤MAXL)=>?_)|refine And.intro (a:=I64 _) ?_ ?_|fail
   ·unfold I64
    dsimp only
    omega
   refine ⟨(l[i],decide ((l.length:Int)-cn≤(i:Int))),(by (refine wk_auto ?_;refine Sel4.mk rfl rfl ?_ ?_<;>(repeat' first|exact True.intro|exact rfl|exact .inl rfl|exact .inr rfl|refine And.intro ?_ ?_|fail))),?_⟩
   rw [accM_10 hlt rfl hn0,←ho]
   simp
 obtain ⟨s,kp⟩:=s
 dsimp only at hst
 cases kp
 ·repeat' first|(refine fun (b:Bool) hb=>?_;cases b<;>first|exact absurd hb (by decide)|exact nfl hb|exact nfr hb|skip)|refine And.intro (a:=I64 _) ?_ ?_|fail
  ·unfold I64
   dsimp only
   omega
  refine ⟨(i+1,out),(by (refine wk_auto ?_;refine Sel4.mk rfl rfl ?_ ?_<;>(repeat' first|exact True.intro|exact rfl|exact .inl rfl|exact .inr rfl|refine And.intro ?_ ?_|fail))),⟨?_,hlt⟩,?_⟩
  ·show out=accM c l (i+1)
   rw [hst]
   simp
  ·show l.length-(i+1)<l.length-i
   omega
 ·repeat' first|(refine fun (b:Bool) hb=>?_;cases b<;>first|exact absurd hb (by decide)|exact nfl hb|exact nfr hb|skip)|refine And.intro (a:=I64 _) ?_ ?_|refine And.intro (a:=_≤140737488355328) ?_ ?_|refine ⟨rfl,?_⟩|fail
  ·show ((out.map strV).length+1)*16≤140737488355328
   rw [List.length_map]
   omega
  ·unfold I64
   dsimp only
   omega
  refine ⟨(i+1,out++[s]),?_,⟨?_,hlt⟩,?_⟩
  rotate_left
  ·show out++[s]=accM c l (i+1)
   rw [hst]
   simp
  ·show l.length-(i+1)<l.length-i
   omega
  (refine wk_auto ?_;refine Sel4.mk rfl rfl ?_ ?_<;>(repeat' first|exact True.intro|exact rfl|exact .inl rfl|exact .inr rfl|refine And.intro ?_ ?_|fail))
  show Row.row 1 _=Row.row 1 _
  simp
  rfl
end Gv
namespace Gv
variable [Glob] [Laid] [Errs]
theorem parseIS_ca:callable Tryz.prog 117=true:=by kernel_rfl
def parseIS_S:Spec:=fun args K=>∃ (s:Bs),args=[.str s,.int .i64 10,.int .i64 64]∧s.length≤140737488355328∧(∀ k,Lib.atoiAll s=.ok k→K (.tup [.int .i64 k,.raw .nilIface]))∧∀ n T b,(∀ k,Lib.atoiAll s≠.ok k)→K (.tup [.int .i64 n,.raw (.iface T (.pointer (some ⟨b,0,none⟩)))])
theorem parseIS_ok:Pure Tryz.prog 117 parseIS_S:=by
 intro w m args us K hm hg hv hT
 obtain ⟨s,rfl,h1,hok,herr⟩:=hT
 obtain ⟨a,b,c,rfl,ha,hb,hc⟩:=args3 hv.1 hv.2
 cases hb;cases hc
 obtain ⟨rfl,-⟩:=vr_str ha
 have hgw:Sub Glob.mem w:=fun b o e=>hm b o (hg b o e)
 have two:∀ {m:Mem} {n:Int} {u:Value},VR m noLoc (.tup [.int .i64 n,.raw u]) (.tuple #[.int .i64 n,u]):=fun {m n u}=>by
  have h:VRL m noLoc [.int .i64 n,.raw u] [.int .i64 n,u]:=VRL.cons .int (VRL.cons .raw VRL.nil)
  exact .tup h.len h.el
 have hp:Lib.parseIntB 64 s=Lib.atoiAll s:=Lib.parseIntB_64 s
 rw [←hp] at hok herr
 cases h:Lib.parseIntB 64 s with
 | ok v =>
  refine (Tryz.strconv_ParseInt_10_at64_ok (ba s) (by rw [ba_size];omega) v h w).mono fun e w' ⟨he,hw⟩=>?_
  refine ⟨_,_,he,Bel.of_below ?_,hok v h,two⟩
  rcases hw with rfl|⟨t,rfl⟩
  ·exact RowKit.Below.refl _ _
  ·exact Lib.bytesWorld_below _ _ _
 | range =>
  obtain ⟨tp,pv,e1⟩:=Errs.rng w hgw
  refine (Tryz.strconv_ParseInt_10_at64_range_var (ba s) (by rw [ba_size];omega) h tp pv w e1).mono fun e w' ⟨N,he,_,_,hw⟩=>?_
  exact ⟨_,_,he,Bel.of_below hw,herr _ _ _ (fun k=>by rw [h];intro x;cases x),two⟩
 | _ =>
  obtain ⟨tp,pv,e1⟩:=Errs.syn w hgw
  refine (Tryz.strconv_ParseInt_10_at64_syntax_var (ba s) (by rw [ba_size];omega) h tp pv w e1).mono fun e w' ⟨N,he,_,_,hw⟩=>?_
  exact ⟨_,_,he,Bel.of_below hw,herr _ _ _ (fun k=>by rw [h];intro x;cases x),two⟩
end Gv
namespace Gv
variable [Glob] [Laid] [Nums]
theorem fmtI_ca:callable Tryz.prog 118=true:=by kernel_rfl
def fmtI_S:Spec:=fun args K=>∃ (n:Int),args=[.int .i64 n,.int .i64 10]∧I64 n∧K (.str (Lib.itoa n))
theorem fmtI_ok:Pure Tryz.prog 118 fmtI_S:=by
 intro w m args us K hm hg hv hT
 obtain ⟨n,rfl,h1,hK⟩:=hT
 obtain ⟨a,b,rfl,ha,hb⟩:=args2 hv.1 hv.2
 cases ha
 cases hb
 refine (Tryz.strconv_FormatInt_10 n h1.1 h1.2 w (Nums.pow10 w (fun b o e=>hm b o (hg b o e)))).mono fun e w' ⟨he,k,os,hw⟩=>?_
 subst hw
 have:=itoa_len n h1
 exact ⟨_,_,he,bel_more w k os,hK,.str (by unfold MAXL;omega)⟩
end Gv
namespace Gv
variable [Glob] [Laid] [Errs] [Nums]
theorem joinedR_ca:callable Tryz.prog 75=true:=by kernel_rfl
def joinedR_S:Spec:=fun args K=>∃ (h:Int) (c:Cmd) (p:List Bs),args=[.int .i64 h,cmdV c,.sl blV p]∧((h=4→checkCmd c=0)∧p.length≤5∧p.flatten.length≤500000000)∧K (.sl byteV (jd h c p))
noncomputable def joinedR_lib:List (Nat × Spec):=[(38,linesOfR_S),(117,parseIS_S),(118,fmtI_S),(107,itoa_S),(37,madeR_S),(36,bytesOfR_S)]
noncomputable def joinedR_fns:List (Nat × FnI):=[]
noncomputable def joinedR_prims:List (Nat × PSpec):=[]
theorem joinedR_E:EnvOK ⟨Tryz.prog,tys,joinedR_lib,joinedR_fns,joinedR_prims,[]⟩:=env_ok mixed0 tys0 (.cons linesOfR_ca linesOfR_ok (.cons parseIS_ca parseIS_ok (.cons fmtI_ca fmtI_ok (.cons itoa_ca itoa_ok (.cons madeR_ca madeR_ok (.cons bytesOfR_ca bytesOfR_ok .nil)))))) .nil .nil rfl
theorem joinedR_ok:Pure Tryz.prog 75 joinedR_S:=by
 refine pure_by joinedR_E 6 (fi:={fn:=Tryz.f75,hooks:=[13,32],draws:=[(10,[0,1,3,7,15,31,63,127,255,511,1023,2047,4095,2047,10239,26623,65535,131071]),(27,[0,0,0,0,12,28,62,126,1,511])]}) ⟨Tryz.func75,by kernel_rfl,by kernel_rfl⟩ ?_
 rintro _ K ⟨h,c,p,rfl,⟨hc4,h5,hfl⟩,hK⟩
 replace hK:∀ r,r=.sl byteV (jd h c p)→K r:=fun r h=>h ▸ hK
 have hpl:∀ b∈p,b.length≤500000000:=fun b hb=>Nat.le_trans (el_flat hb) hfl
 obtain ⟨P,hP⟩:∃ P,p.map linesOf=P:=⟨_,rfl⟩
 have hPl:P.length=p.length:=by rw [←hP,List.length_map]
 have hPi:∀ i (hi:i<p.length),P.getD i []=linesOf p[i]:=fun i hi=>by
  rw [←hP,List.getD_eq_getElem?_getD,List.getElem?_map,List.getElem?_eq_getElem hi]
  rfl
 skip
 conv=>whnf
 refine join_live [0,2,4] (σ:=Unit) (fun _=>[(7,.own 1),(8,.int .i64 (sumN P P.length))]) (fun _=>[.box (cmdV c).cells,.row 1 (P.flatten.map strV)]) (fun _=>True) ?_
 conv=>whnf
 refine ⟨?_,fun _ _=>?_⟩
 ·repeat' first|(refine fun (hl:_≤MAXL)=>?_)|fail
  conv=>whnf
  refine loop_live [0,2,4,20,21] (σ:=Nat × List Bs × Int) (fun s=>[(22,.int .i64 s.1),(7,.own 1),(8,.int .i64 s.2.2)]) (fun s=>[.box (cmdV c).cells,.row 1 (s.2.1.map strV)]) (fun s=>s.1≤p.length∧s.2.1=(P.take s.1).flatten∧s.2.2=sumN P s.1) (fun s=>p.length-s.1) (0,[],0) ?_
  conv=>whnf
  refine ⟨(by (refine wk_auto ?_;refine Sel4.mk rfl rfl ?_ ?_<;>(repeat' first|exact True.intro|exact rfl|exact .inl rfl|exact .inr rfl|refine And.intro ?_ ?_|fail))),⟨Nat.zero_le _,by simp,rfl⟩,fun s hs=>?_⟩
  obtain ⟨i,all,acc⟩:=s
  obtain ⟨hi,ha,hacc⟩:=hs
  dsimp only at hi ha hacc
  repeat' first|(refine fun (b:Bool) hb=>?_;cases b<;>first|exact absurd hb (by decide)|exact nfl hb|exact nfr hb|skip)|refine ⟨_,rfl,?_,rfl,?_⟩|fail
  ·have hge:¬ (i:Int)<(p.length:Int):=of_decide_eq_false (by assumption)
   have ei:i=P.length:=by omega
   have ea:all=P.flatten:=by rw [ha,ei,List.take_length]
   have ec:acc=sumN P P.length:=by rw [hacc,ei]
   subst ea
   subst ec
   exact ⟨(),(by (refine wk_auto ?_;refine Sel4.mk rfl rfl ?_ ?_<;>(repeat' first|exact True.intro|exact rfl|exact .inl rfl|exact .inr rfl|refine And.intro ?_ ?_|fail))),trivial⟩
  ·have h:=of_decide_eq_true (by assumption:decide ((i:Int)<(p.length:Int))=true)
   show i<p.length
   omega
  have hlt:i<p.length:=by
   have h:=of_decide_eq_true (by assumption:decide ((i:Int)<(p.length:Int))=true)
   omega
  have hbl:=hpl _ (List.getElem_mem hlt)
  have hll:=linesOf_len p[i]
  have hnx:sumN P (i+1)=sumN P i+numH (linesOf p[i]):=by rw [sumN,hPi i hlt]
  have hnb:=numH_bnd (linesOf p[i])
  have hbd:=sumN_bnd P i
  rw [←hacc] at hbd
  have hta:(P.take (i+1)).flatten=all++linesOf p[i]:=by
   have hiP:i<P.length:=by omega
   have e:P[i]=linesOf p[i]:=by
    have:=hPi i hlt
    rw [List.getD_eq_getElem?_getD,List.getElem?_eq_getElem hiP] at this
    exact this
   rw [List.take_succ_eq_append_getElem hiP,List.flatten_append,←ha,e]
   simp
  have hal:all.length≤600000000:=by
   have h1:=congrArg (fun x=>x.flatten.length) (List.take_append_drop i P)
   have h2:((P.take i).flatten++(P.drop i).flatten).length=P.flatten.length:=by rw [←List.flatten_append,List.take_append_drop]
   have h3:=put_flat p
   have h4:=put_len (l:=(p.map linesOf).flatten) (n:=600000000) (by omega)
   rw [hP] at h4
   rw [List.length_append] at h2
   rw [ha];omega
  refine ⟨p[i],rfl,by omega,?_⟩
  repeat' first|(refine fun (b:Bool) hb=>?_;cases b<;>first|exact absurd hb (by decide)|exact nfl hb|exact nfr hb|skip)|(refine fun (hl:_≤MAXL)=>?_)|refine And.intro (a:=I64 _) ?_ ?_|refine And.intro (a:=_≤140737488355328) ?_ ?_|refine ⟨_,rfl,?_,rfl,?_⟩|refine ⟨(fun _=>rfl),?_⟩|fail
  ·show ((all.map strV).length+((linesOf p[i]).map strV).length)*16≤140737488355328
   rw [List.length_map,List.length_map]
   omega
  ·unfold I64
   dsimp only
   omega
  ·have h:¬ (0:Int)<((linesOf p[i]).length:Int):=of_decide_eq_false (by assumption)
   have h0:linesOf p[i]=[]:=List.length_eq_zero_iff.1 (by omega)
   have e:sumN P (i+1)=acc:=by rw [hnx,h0,hacc];show _+0=_;omega
   refine ⟨(i+1,all++linesOf p[i],acc),?_,⟨hlt,hta.symm,e.symm⟩,by show p.length-(i+1)<p.length-i;omega⟩
   (refine wk_auto ?_;refine Sel4.mk rfl rfl ?_ ?_<;>(repeat' first|exact True.intro|exact rfl|exact .inl rfl|exact .inr rfl|refine And.intro ?_ ?_|fail))
   show Row.row 1 _=Row.row 1 _
   rw [List.map_append]
  ·have h:(0:Int)<((linesOf p[i]).length:Int):=of_decide_eq_true (by assumption)
   have h0:0<(linesOf p[i]).length:=by omega
   exact h0
  have h:(0:Int)<((linesOf p[i]).length:Int):=of_decide_eq_true (by assumption)
  have hp0:0<(linesOf p[i]).length:=by omega
  obtain ⟨s,hs0⟩:∃ s,(linesOf p[i])[0]=s:=⟨_,rfl⟩
  have hsm:s∈linesOf p[i]:=by rw [←hs0];exact List.getElem_mem _
  have hsl:s.length≤1000000000:=by have:=linesOf_el p[i] s hsm;omega
  have hnh:numH (linesOf p[i])=numOf s:=by
   cases hq:linesOf p[i] with
   | nil=>rw [hq] at hp0;simp at hp0
   | cons x r=>simp only [hq] at hs0;rw [←hs0];rfl
  have nxt:∀ acc',acc'=sumN P (i+1)→((i+1,all++linesOf p[i],acc'):Nat × List Bs × Int).1≤p.length∧((i+1,all++linesOf p[i],acc'):Nat × List Bs × Int).2.1=(P.take (i+1)).flatten∧((i+1,all++linesOf p[i],acc'):Nat × List Bs × Int).2.2=sumN P (i+1):=fun acc' e=>⟨hlt,hta.symm,e⟩
  conv=>whnf
  refine ⟨(linesOf p[i])[0],rfl,by rw [hs0];omega,fun k hk=>?_,fun n T b hn=>?_⟩
  ·rw [hs0] at hk
   have hkb:=Lib.atoiAll_bounds hk
   have hno:numOf s=if 0≤k∧k≤4000∧Lib.itoa k=s then k else 0:=by unfold numOf;rw [hk]
   have hz:∀ h:¬ (0≤k∧k≤4000∧Lib.itoa k=s),acc=sumN P (i+1):=fun h=>by rw [hnx,hnh,hno,if_neg h,hacc];omega
   repeat' first|(refine fun (b:Bool) hb=>?_;cases b<;>first|exact absurd hb (by decide)|exact nfl hb|exact nfr hb|skip)|refine And.intro (a:=I64 _) ?_ ?_|refine ⟨_,⟨rfl,rfl⟩,?_⟩|fail
   ·unfold I64
    dsimp only
    omega
   ·have h:¬ (0:Int)≤k:=of_decide_eq_false (by assumption)
    exact ⟨(i+1,all++linesOf p[i],acc),by ((refine wk_auto ?_;refine Sel4.mk rfl rfl ?_ ?_<;>(repeat' first|exact True.intro|exact rfl|exact .inl rfl|exact .inr rfl|refine And.intro ?_ ?_|fail));show Row.row 1 _=Row.row 1 _;rw [List.map_append]),nxt _ (hz (fun e=>h e.1)),by show p.length-(i+1)<p.length-i;omega⟩
   ·unfold I64
    dsimp only
    omega
   ·have h:¬ k≤4000:=of_decide_eq_false (by assumption)
    exact ⟨(i+1,all++linesOf p[i],acc),by ((refine wk_auto ?_;refine Sel4.mk rfl rfl ?_ ?_<;>(repeat' first|exact True.intro|exact rfl|exact .inl rfl|exact .inr rfl|refine And.intro ?_ ?_|fail));show Row.row 1 _=Row.row 1 _;rw [List.map_append]),nxt _ (hz (fun e=>h e.2.1)),by show p.length-(i+1)<p.length-i;omega⟩
   apply Exists.intro
   apply And.intro
   ·refine ⟨k,rfl,hkb,?_⟩
    exact ⟨rfl,rfl⟩
   repeat' first|(refine fun (b:Bool) hb=>?_;cases b<;>first|exact absurd hb (by decide)|exact nfl hb|exact nfr hb|skip)|refine And.intro (a:=I64 _) ?_ ?_|refine ⟨_,⟨rfl,rfl⟩,?_⟩|refine ⟨_,⟨_,rfl,?_,rfl,rfl,rfl⟩,?_⟩|fail
   ·exact hp0
   ·unfold I64
    dsimp only
    omega
   ·have h:¬ Lib.itoa k=(linesOf p[i])[0]:=of_decide_eq_false (by assumption)
    rw [hs0] at h
    exact ⟨(i+1,all++linesOf p[i],acc),by ((refine wk_auto ?_;refine Sel4.mk rfl rfl ?_ ?_<;>(repeat' first|exact True.intro|exact rfl|exact .inl rfl|exact .inr rfl|refine And.intro ?_ ?_|fail));show Row.row 1 _=Row.row 1 _;rw [List.map_append]),nxt _ (hz (fun e=>h e.2.2)),by show p.length-(i+1)<p.length-i;omega⟩
   ·have h2:k≤4000:=of_decide_eq_true (by assumption)
    unfold I64
    dsimp only
    omega
   ·unfold I64
    dsimp only
    omega
   ·have h:Lib.itoa k=(linesOf p[i])[0]:=of_decide_eq_true (by assumption)
    rw [hs0] at h
    have h1:(0:Int)≤k:=of_decide_eq_true (by assumption)
    have h2:k≤4000:=of_decide_eq_true (by assumption)
    have e:acc+k=sumN P (i+1):=by rw [hnx,hnh,hno,if_pos ⟨h1,h2,h⟩,hacc]
    exact ⟨(i+1,all++linesOf p[i],acc+k),by ((refine wk_auto ?_;refine Sel4.mk rfl rfl ?_ ?_<;>(repeat' first|exact True.intro|exact rfl|exact .inl rfl|exact .inr rfl|refine And.intro ?_ ?_|fail));show Row.row 1 _=Row.row 1 _;rw [List.map_append]),nxt _ e,by show p.length-(i+1)<p.length-i;omega⟩
  ·rw [hs0] at hn
   have hno:numOf s=0:=by
    unfold numOf
    cases h:Lib.atoiAll s with
    | ok k=>exact absurd h (hn k)
    | _=>rfl
   have e:acc=sumN P (i+1):=by rw [hnx,hnh,hno,hacc];omega
   repeat' first|refine And.intro (a:=I64 _) ?_ ?_|refine ⟨_,⟨rfl,rfl⟩,?_⟩|fail
   ·unfold I64
    dsimp only
    omega
   exact ⟨(i+1,all++linesOf p[i],acc),by ((refine wk_auto ?_;refine Sel4.mk rfl rfl ?_ ?_<;>(repeat' first|exact True.intro|exact rfl|exact .inl rfl|exact .inr rfl|refine And.intro ?_ ?_|fail));show Row.row 1 _=Row.row 1 _;rw [List.map_append]),nxt _ e,by show p.length-(i+1)<p.length-i;omega⟩
 have hpf:=put_flat p
 rw [hP] at hpf
 have hPf:=put_len (l:=P.flatten) (n:=600000000) (by omega)
 have hjp:=joinB_put9 hc4 P (by omega) (by omega)
 have hjd:jd h c p=put (joinB h c P):=by unfold jd;rw [hP]
 rw [hjd] at hK
 have hsb:=sumN_bnd P P.length
 skip
 conv=>whnf
 refine join_live [] (σ:=Unit) (fun _=>[(7,.sl strV (joinB h c P))]) (fun _=>[]) (fun _=>True) ?_
 conv=>whnf
 refine ⟨?_,fun _ _=>?_⟩
 rotate_left
 ·skip
  refine ⟨joinB h c P,rfl,by omega,?_⟩
  skip
  exact hK _ rfl
 repeat' first|refine ⟨_,_,_,LeL.refl _,?_⟩|(refine fun (b:Bool) hb=>?_;cases b<;>first|exact absurd hb (by decide)|exact nfl hb|exact nfr hb|skip)|(refine fun (hl:_≤MAXL)=>?_)|refine ⟨rfl,?_⟩|fail
 ·have h3:¬ h=3:=of_decide_eq_false (by assumption)
  have h4:¬ h=4:=of_decide_eq_false (by assumption)
  have h2:¬ h=2:=of_decide_eq_false (by assumption)
  have e:joinB h c P=P.flatten:=by unfold joinB;rw [if_neg h2,if_neg h3,if_neg h4]
  refine ⟨(),?_,trivial⟩
  rw [e]
  exact (wk_fz 1 rfl (LeL.refl _)).trans (by (refine wk_auto ?_;refine Sel4.mk rfl rfl ?_ ?_<;>(repeat' first|exact True.intro|exact rfl|exact .inl rfl|exact .inr rfl|refine And.intro ?_ ?_|fail)))
 ·have h2:h=2:=of_decide_eq_true (by assumption)
  have e:joinB h c P=mergeB P:=by unfold joinB;rw [if_pos h2]
  conv=>whnf
  refine ⟨p.length,rfl,by show p.length*8≤140737488355328;omega,?_⟩
  conv=>whnf
  refine loop_live [2,14] (σ:=List Nat × List Bs) (fun s=>[(7,.own 1)]) (fun s=>[.dead,.row 1 (s.2.map strV),.row 1 (s.1.map fun (k:Nat)=>intV k)]) (fun s=>s.1.length=P.length∧(∀ i (hi:i<s.1.length) (hj:i<P.length),s.1[i]≤P[i].length)∧s.2++mergeB (curP P s.1)=mergeB P∧s.2.length+(curP P s.1).flatten.length=P.flatten.length) (fun s=>(curP P s.1).flatten.length) (List.replicate P.length 0,[]) ?_
  conv=>whnf
  refine ⟨?_,⟨by simp,fun i hi hj=>by simp,by rw [curP_0];rfl,by rw [curP_0];simp⟩,fun s hs=>?_⟩
  ·(refine wk_auto ?_;refine Sel4.mk rfl rfl ?_ ?_<;>(repeat' first|exact True.intro|exact rfl|exact .inl rfl|exact .inr rfl|refine And.intro ?_ ?_|fail))
   show Row.row 1 ((List.replicate P.length 0).map fun (k:Nat)=>intV k)=Row.row 1 (List.replicate p.length (.int .i64 0))
   rw [List.map_replicate,hPl]
   rfl
  obtain ⟨ats,out⟩:=s
  obtain ⟨hal,hab,hom,hol⟩:=hs
  dsimp only at hal hab hom hol
  repeat' first|(refine fun (hl:_≤MAXL)=>?_)|fail
  conv=>whnf
  refine loop_live [2,7,14,79,80] (σ:=Nat × Int × Bs) (fun s=>[(81,.int .i64 s.1),(15,.int .i64 s.2.1),(16,.str s.2.2)]) (fun s=>[.dead,.row 1 (out.map strV),.row 1 (ats.map fun (k:Nat)=>intV k)]) (fun s=>s.1≤p.length∧s.2.1=bestN (best (curP P ats) s.1)∧s.2.2=bestS (best (curP P ats) s.1)) (fun s=>p.length-s.1) (0,-1,[]) ?_
  conv=>whnf
  refine ⟨(by (refine wk_auto ?_;refine Sel4.mk rfl rfl ?_ ?_<;>(repeat' first|exact True.intro|exact rfl|exact .inl rfl|exact .inr rfl|refine And.intro ?_ ?_|fail))),⟨Nat.zero_le _,rfl,rfl⟩,fun s hs=>?_⟩
  obtain ⟨i,bn,bs⟩:=s
  obtain ⟨hi,hbn,hbs⟩:=hs
  dsimp only at hi hbn hbs
  have hql:(curP P ats).length=P.length:=curP_len hal
  repeat' first|(refine fun (b:Bool) hb=>?_;cases b<;>first|exact absurd hb (by decide)|exact nfl hb|exact nfr hb|skip)|refine ⟨_,rfl,?_,rfl,?_⟩|refine ⟨rfl,?_⟩|fail
  ·
   have hge:¬ (i:Int)<(p.length:Int):=of_decide_eq_false (by assumption)
   have ei:i=(curP P ats).length:=by omega
   have hb:¬ bn<0:=of_decide_eq_false (by assumption)
   obtain ⟨j,s,hbt⟩:∃ j s,best (curP P ats) i=some (j,s):=by
    cases hq:best (curP P ats) i with
    | none=>rw [hq] at hbn;rw [hbn] at hb;exact absurd (show (-1:Int)<0 by decide) hb
    | some x=>exact ⟨x.1,x.2,rfl⟩
   rw [hbt] at hbn hbs
   have hbn:bn=(j:Int):=hbn
   have hbs:bs=s:=hbs
   rw [ei] at hbt
   have hms:=mergeB_step hbt
   obtain ⟨hji,⟨r,hjr⟩,-⟩:=best_some hbt
   have hfl:=(flat_part hjr).length_eq
   rw [List.length_cons] at hfl
   have hjP:j<P.length:=by omega
   have hja:j<ats.length:=by omega
   have hset:=curP_set hal hjP
   rw [curP_get hal hjP] at hjr
   have hlt2:ats[j]<P[j].length:=by
    rcases Nat.lt_or_ge ats[j] P[j].length with h|h
    ·exact h
    ·rw [List.drop_eq_nil_of_le h] at hjr;cases hjr
   have hgj:(ats.map fun (k:Nat)=>intV k)[j]?=some (intV ats[j]):=by rw [List.getElem?_map,List.getElem?_eq_getElem hja];rfl
   have hjm:j<(ats.map fun (k:Nat)=>intV k).length:=by rw [List.length_map];exact hja
   have hPj:P[j].length≤500000000:=by
    have e:P[j]=linesOf (p[j]'(by omega)):=by
     have:=hPi j (by omega)
     rw [List.getD_eq_getElem?_getD,List.getElem?_eq_getElem hjP] at this
     exact this
    have h1:=linesOf_len (p[j]'(by omega))
    have h2:=hpl (p[j]'(by omega)) (List.getElem_mem _)
    rw [e];omega
   refine ⟨j,hbn,hjm,?_⟩
   conv=>whnf
   refine ⟨_,hgj,?_⟩
   repeat' first|refine And.intro (a:=I64 _) ?_ ?_|refine ⟨rfl,?_⟩|fail
   ·unfold I64
    omega
   refine ⟨j,hbn,hjm,?_⟩
   conv=>whnf
   refine ⟨hjm,?_⟩
   repeat' first|refine And.intro (a:=_≤140737488355328) ?_ ?_|refine ⟨rfl,?_⟩|fail
   ·show ((out.map strV).length+([bs].map strV).length)*16≤140737488355328
    rw [List.length_map,List.length_map,List.length_singleton]
    omega
   refine ⟨(ats.set j (ats[j]+1),out++[s]),?_,⟨?_,?_,?_,?_⟩,?_⟩
   ·(refine wk_auto ?_;refine Sel4.mk rfl rfl ?_ ?_<;>(repeat' first|exact True.intro|exact rfl|exact .inl rfl|exact .inr rfl|refine And.intro ?_ ?_|fail))
    ·show Row.row 1 _=Row.row 1 _
     rw [hbs,List.map_append]
     rfl
    ·show Row.row 1 _=Row.row 1 _
     rw [List.map_set]
     rfl
   ·show (ats.set j _).length=_
    rw [List.length_set,hal]
   ·intro k hk hk2
    show (ats.set j (ats[j]+1))[k]≤_
    rw [List.getElem_set]
    split
    ·rename_i ejk
     subst ejk
     omega
    ·exact hab k _ hk2
   ·show (out++[s])++mergeB (curP P (ats.set j (ats[j]+1)))=_
    rw [hset,List.append_assoc,←hom,hms]
    rfl
   ·show (out++[s]).length+(curP P (ats.set j (ats[j]+1))).flatten.length=_
    rw [hset,List.length_append,List.length_singleton]
    omega
   ·show (curP P (ats.set j (ats[j]+1))).flatten.length<(curP P ats).flatten.length
    rw [hset]
    omega
  ·
   have hge:¬ (i:Int)<(p.length:Int):=of_decide_eq_false (by assumption)
   have ei:i=(curP P ats).length:=by omega
   have hb:bn<0:=of_decide_eq_true (by assumption)
   have hn:best (curP P ats) (curP P ats).length=none:=by
    rw [←ei]
    cases hq:best (curP P ats) i with
    | none=>rfl
    | some x =>
     obtain ⟨j,s⟩:=x
     rw [hq] at hbn
     have hbn:bn=(j:Int):=hbn
     omega
   rw [mergeB_none hn,List.append_nil] at hom
   refine ⟨(),?_,trivial⟩
   rw [e,←hom]
   exact (wk_fz 1 rfl (LeL.refl _)).trans (by (refine wk_auto ?_;refine Sel4.mk rfl rfl ?_ ?_<;>(repeat' first|exact True.intro|exact rfl|exact .inl rfl|exact .inr rfl|refine And.intro ?_ ?_|fail)))
  ·have h:=of_decide_eq_true (by assumption:decide ((i:Int)<(p.length:Int))=true)
   show i<p.length
   omega
  all_goals have hlt:i<p.length:=by (have h:=of_decide_eq_true (by assumption:decide ((i:Int)<(p.length:Int))=true);omega)
  ·have:=hpl _ (List.getElem_mem hlt)
   show p[i].length≤1000000000
   omega
  have hiP:i<P.length:=by omega
  have hia:i<ats.length:=by omega
  have hPe:P[i]=linesOf p[i]:=by
   have:=hPi i hlt
   rw [List.getD_eq_getElem?_getD,List.getElem?_eq_getElem hiP] at this
   exact this
  have hgi:(ats.map fun (k:Nat)=>intV k)[i]?=some (intV ats[i]):=by rw [List.getElem?_map,List.getElem?_eq_getElem hia];rfl
  have him:i<(ats.map fun (k:Nat)=>intV k).length:=by rw [List.length_map];exact hia
  have hqi:=curP_get hal hiP
  rw [hPe] at hqi
  have hnx:=best_next (curP P ats) i
  rw [hqi] at hnx
  refine ⟨i,rfl,him,?_⟩
  conv=>whnf
  refine ⟨_,hgi,?_⟩
  repeat' first|(refine fun (b:Bool) hb=>?_;cases b<;>first|exact absurd hb (by decide)|exact nfl hb|exact nfr hb|skip)|(refine fun (hl:_≤MAXL)=>?_)|refine And.intro (a:=I64 _) ?_ ?_|refine ⟨_,⟨rfl,rfl⟩,?_⟩|refine ⟨rfl,?_⟩|fail
  ·unfold I64
   dsimp only
   omega
  ·have h:¬ (ats[i]:Int)<((linesOf p[i]).length:Int):=of_decide_eq_false (by assumption)
   have h0:(linesOf p[i]).drop ats[i]=[]:=List.drop_eq_nil_of_le (by omega)
   rw [h0] at hnx
   have e0:best (curP P ats) (i+1)=best (curP P ats) i:=hnx
   refine ⟨(i+1,bn,bs),(by (refine wk_auto ?_;refine Sel4.mk rfl rfl ?_ ?_<;>(repeat' first|exact True.intro|exact rfl|exact .inl rfl|exact .inr rfl|refine And.intro ?_ ?_|fail))),⟨hlt,by rw [e0];exact hbn,by rw [e0];exact hbs⟩,by show p.length-(i+1)<p.length-i;omega⟩
  ·have h:(ats[i]:Int)<((linesOf p[i]).length:Int):=of_decide_eq_true (by assumption)
   have hal2:ats[i]<(linesOf p[i]).length:=by omega
   have hdr:(linesOf p[i]).drop ats[i]=(linesOf p[i])[ats[i]]::(linesOf p[i]).drop (ats[i]+1):=List.drop_eq_getElem_cons hal2
   have hb:¬ bn<0:=of_decide_eq_false (by assumption)
   obtain ⟨j,t,hbt⟩:∃ j t,best (curP P ats) i=some (j,t):=by
    cases hq:best (curP P ats) i with
    | none=>rw [hq] at hbn;rw [hbn] at hb;exact absurd (show (-1:Int)<0 by decide) hb
    | some x=>exact ⟨x.1,x.2,rfl⟩
   rw [hdr,hbt] at hnx
   have hbs2:bs=t:=by rw [hbs,hbt];rfl
   have hcm:best (curP P ats) (i+1)=if Op.bytesLess (linesOf p[i])[ats[i]] t=true then some (i,(linesOf p[i])[ats[i]]) else some (j,t):=hnx
   refine ⟨i,rfl,him,?_⟩
   conv=>whnf
   refine ⟨_,hgi,?_⟩
   repeat' first|(refine fun (b:Bool) hb=>?_;cases b<;>first|exact absurd hb (by decide)|exact nfl hb|exact nfr hb|skip)|refine And.intro (a:=I64 _) ?_ ?_|refine ⟨_,⟨rfl,rfl⟩,?_⟩|refine ⟨_,rfl,?_,rfl,?_⟩|fail
   ·exact hal2
   ·unfold I64
    dsimp only
    omega
   ·have hl2:Op.bytesLess (linesOf p[i])[ats[i]] bs=false:=by assumption
    rw [←hbs2,hl2] at hcm
    have e0:best (curP P ats) (i+1)=best (curP P ats) i:=by rw [hbt,hcm,hbs2];rfl
    exact ⟨(i+1,bn,bs),(by (refine wk_auto ?_;refine Sel4.mk rfl rfl ?_ ?_<;>(repeat' first|exact True.intro|exact rfl|exact .inl rfl|exact .inr rfl|refine And.intro ?_ ?_|fail))),⟨hlt,by rw [e0];exact hbn,by rw [e0];exact hbs⟩,by show p.length-(i+1)<p.length-i;omega⟩
   have hl2:Op.bytesLess (linesOf p[i])[ats[i]] bs=true:=by assumption
   rw [←hbs2,hl2] at hcm
   have e0:best (curP P ats) (i+1)=some (i,(linesOf p[i])[ats[i]]):=hcm
   conv=>whnf
   refine ⟨_,⟨rfl,i,rfl,him,⟨rfl,rfl⟩⟩,?_⟩
   repeat' first|exact True.intro|refine And.intro (a:=chkPast _ _ _ _ _ _ _ _) ?_ ?_|fail
   conv=>whnf
   refine ⟨_,⟨_,hgi,⟨rfl,rfl⟩⟩,?_⟩
   repeat' first|exact True.intro|refine And.intro (a:=I64 _) ?_ ?_|refine ⟨_,⟨rfl,rfl⟩,?_⟩|refine And.intro (a:=chkPast _ _ _ _ _ _ _ _) ?_ ?_|refine ⟨_,⟨_,rfl,?_,rfl,rfl,rfl⟩,?_⟩|fail
   ·exact hal2
   ·unfold I64
    dsimp only
    omega
   exact ⟨(i+1,(i:Int),(linesOf p[i])[ats[i]]),(by (refine wk_auto ?_;refine Sel4.mk rfl rfl ?_ ?_<;>(repeat' first|exact True.intro|exact rfl|exact .inl rfl|exact .inr rfl|refine And.intro ?_ ?_|fail))),⟨hlt,by rw [e0];rfl,by rw [e0];rfl⟩,by show p.length-(i+1)<p.length-i;omega⟩
  ·have h:(ats[i]:Int)<((linesOf p[i]).length:Int):=of_decide_eq_true (by assumption)
   have hal2:ats[i]<(linesOf p[i]).length:=by omega
   have hdr:(linesOf p[i]).drop ats[i]=(linesOf p[i])[ats[i]]::(linesOf p[i]).drop (ats[i]+1):=List.drop_eq_getElem_cons hal2
   have hb:bn<0:=of_decide_eq_true (by assumption)
   have hbt:best (curP P ats) i=none:=by
    cases hq:best (curP P ats) i with
    | none=>rfl
    | some x =>
     obtain ⟨j,s⟩:=x
     rw [hq] at hbn
     have hbn:bn=(j:Int):=hbn
     omega
   rw [hdr,hbt] at hnx
   conv=>whnf
   refine ⟨_,⟨rfl,i,rfl,him,⟨rfl,rfl⟩⟩,?_⟩
   repeat' first|exact True.intro|refine And.intro (a:=chkPast _ _ _ _ _ _ _ _) ?_ ?_|fail
   conv=>whnf
   refine ⟨_,⟨_,hgi,⟨rfl,rfl⟩⟩,?_⟩
   repeat' first|exact True.intro|refine And.intro (a:=I64 _) ?_ ?_|refine ⟨_,⟨rfl,rfl⟩,?_⟩|refine And.intro (a:=chkPast _ _ _ _ _ _ _ _) ?_ ?_|refine ⟨_,⟨_,rfl,?_,rfl,rfl,rfl⟩,?_⟩|fail
   ·exact hal2
   ·unfold I64
    dsimp only
    omega
   have e0:best (curP P ats) (i+1)=some (i,(linesOf p[i])[ats[i]]):=hnx
   exact ⟨(i+1,(i:Int),(linesOf p[i])[ats[i]]),(by (refine wk_auto ?_;refine Sel4.mk rfl rfl ?_ ?_<;>(repeat' first|exact True.intro|exact rfl|exact .inl rfl|exact .inr rfl|refine And.intro ?_ ?_|fail))),⟨hlt,by rw [e0];rfl,by rw [e0];rfl⟩,by show p.length-(i+1)<p.length-i;omega⟩
 ·have h3:¬ h=3:=of_decide_eq_false (by assumption)
  have h4:h=4:=of_decide_eq_true (by assumption)
  have e:joinB h c P=linesC c P.flatten:=by unfold joinB;rw [if_neg (by omega),if_neg h3,if_pos h4]
  refine ⟨c,P.flatten,rfl,⟨hc4 h4,by omega,fun s hs=>?_⟩,?_⟩
  ·have:=put_el hs
   omega
  skip
  refine ⟨(),?_,trivial⟩
  rw [e]
  exact (by (refine wk_auto ?_;refine Sel4.mk rfl rfl ?_ ?_<;>(repeat' first|exact True.intro|exact rfl|exact .inl rfl|exact .inr rfl|refine And.intro ?_ ?_|fail)))
 ·have h3:h=3:=of_decide_eq_true (by assumption)
  have e:joinB h c P=[Lib.itoa (sumN P P.length)]:=by unfold joinB;rw [if_neg (by omega),if_pos h3]
  skip
  refine ⟨sumN P P.length,rfl,⟨by omega,by omega⟩,?_⟩
  skip
  refine ⟨(),?_,trivial⟩
  rw [e]
  exact (wk_fz (l:=[Lib.itoa (sumN P P.length)]) (enc:=strV) 2 rfl (LeL.refl _)).trans (by (refine wk_auto ?_;refine Sel4.mk rfl rfl ?_ ?_<;>(repeat' first|exact True.intro|exact rfl|exact .inl rfl|exact .inr rfl|refine And.intro ?_ ?_|fail)))
end Gv
namespace Gv
variable [Glob] [Laid] [Nums] [Errs]
theorem nodeMadeR_ca:callable Tryz.prog 148=true:=by kernel_rfl
def nodeMadeR_S:Spec:=fun args K=>∃ (n:Gp.Node) (f:List FileS) (ins:List Bs),args=[nodeV n,.sl fileV f,.sl blV ins]∧(checkN n=0∧n.ins.length=ins.length∧ins.flatten.length≤500000000∧checkFiles f=0)∧K (.sl blV (makeN n f ins))
noncomputable def nodeMadeR_lib:List (Nat × Spec):=[(91,fileOfR_S),(68,wholeR_S),(192,splitOfR_S),(38,linesOfR_S),(37,madeR_S),(36,bytesOfR_S),(75,joinedR_S)]
noncomputable def nodeMadeR_fns:List (Nat × FnI):=[]
noncomputable def nodeMadeR_prims:List (Nat × PSpec):=[]
theorem nodeMadeR_E:EnvOK ⟨Tryz.prog,tys,nodeMadeR_lib,nodeMadeR_fns,nodeMadeR_prims,[]⟩:=env_ok mixed0 tys0 (.cons fileOfR_ca fileOfR_ok (.cons wholeR_ca wholeR_ok (.cons splitOfR_ca splitOfR_ok (.cons linesOfR_ca linesOfR_ok (.cons madeR_ca madeR_ok (.cons bytesOfR_ca bytesOfR_ok (.cons joinedR_ca joinedR_ok .nil))))))) .nil .nil rfl
theorem nodeMadeR_ok:Pure Tryz.prog 148 nodeMadeR_S:=by
 refine pure_by nodeMadeR_E 6 (fi:={fn:=Tryz.f148,hooks:=[],draws:=[(5,[0,1,3,0,8,31,63]),(7,[0,1,0,4,12,28,63,127,255,511])]}) ⟨Tryz.func148,by kernel_rfl,by kernel_rfl⟩ ?_
 rintro _ K ⟨n,f,ins,rfl,⟨hn,hil,hfl,hcf⟩,hK⟩
 replace hK:∀ r,r=.sl blV (makeN n f ins)→K r:=fun r h=>h ▸ hK
 unfold makeN at hK
 have hf:∀ x∈f,x.b.length≤4000:=fun x hx=>((checkFiles_ok hcf).2 x hx).2
 have hfg:fileAt f n.file=getN f n.file:=fileAt_getN (files_iff.1 hcf).2.2
 have hshp:=checkN_shape hn
 have hfa:=fileAt_len hf n.file
 have hpf:=put_lines (fileAt f n.file)
 have hb0:=getD_flat ins 0
 have hg0:∀ h:0<ins.length,ins.getD 0 []=ins[0]:=fun h=>by rw [List.getD_eq_getElem?_getD,List.getElem?_eq_getElem h];rfl
 have hp1:=put_lines (ins.getD 0 [])
 have hl1:=linesOf_len (ins.getD 0 [])
 have hel:=linesOf_el (ins.getD 0 [])
 repeat' first|exact True.intro|(refine fun (b:Bool) hb=>?_;cases b<;>first|exact absurd hb (by decide)|exact nfl hb|exact nfr hb|skip)|refine ⟨_,⟨rfl,rfl⟩,?_⟩|refine And.intro (a:=chkPast _ _ _ _ _ _ _ _) ?_ ?_|refine ⟨_,⟨_,rfl,?_,rfl,rfl,rfl⟩,?_⟩|fail
 ·have k1:¬ n.kind=1:=of_decide_eq_false (by assumption)
  have k2:¬ n.kind=2:=of_decide_eq_false (by assumption)
  have k3:¬ n.kind=3:=of_decide_eq_false (by assumption)
  have k4:¬ n.kind=4:=of_decide_eq_false (by assumption)
  rw [if_neg k1,if_neg k2,if_neg k3,if_neg k4] at hK
  conv=>whnf
  exact ⟨Bs,blV,hK _ rfl⟩
 ·have k4:n.kind=4:=of_decide_eq_true (by assumption)
  rw [if_neg (by omega),if_neg (by omega),if_neg (by omega),if_pos k4] at hK
  have hjc:checkJoin n.how n.c=0:=by
   rcases hshp with h|h|h|h|h
   ·omega
   ·omega
   ·omega
   ·exact h.2.2.2
   ·omega
  conv=>whnf
  refine ⟨n.how,n.c,ins,rfl,⟨(checkJoin_four hjc).1,by omega,hfl⟩,?_⟩
  conv=>whnf
  refine ⟨Bs,blV,[jd n.how n.c ins],LeL.refl _,?_⟩
  exact hK _ rfl
 ·have k3:n.kind=3:=of_decide_eq_true (by assumption)
  show 0<ins.length
  omega
 ·have k3:n.kind=3:=of_decide_eq_true (by assumption)
  have h0:0<ins.length:=by omega
  have hc:checkCmd n.c=0:=by
   rcases hshp with h|h|h|h|h
   ·omega
   ·omega
   ·exact h.2.2
   ·omega
   ·omega
  rw [if_neg (by omega),if_neg (by omega),if_pos k3] at hK
  rw [hg0 h0] at hb0 hp1 hl1 hel hK
  have hlp:=linesC_put9 hc (linesOf ins[0]) (by omega)
  apply Exists.intro
  apply And.intro
  ·refine ⟨ins[0],rfl,by omega,?_⟩
   exact ⟨rfl,rfl⟩
  skip
  apply Exists.intro
  apply And.intro
  ·refine ⟨n.c,linesOf ins[0],rfl,⟨hc,by omega,fun s hs=>by have:=hel s hs;omega⟩,?_⟩
   exact ⟨rfl,rfl⟩
  skip
  apply Exists.intro
  apply And.intro
  ·refine ⟨linesC n.c (linesOf ins[0]),rfl,by omega,?_⟩
   exact ⟨rfl,rfl⟩
  skip
  refine ⟨_,⟨Bs,blV,[put (linesC n.c (linesOf ins[0]))],LeL.refl _,rfl,rfl⟩,?_⟩
  repeat' first|refine ⟨_,⟨rfl,rfl⟩,?_⟩|fail
  conv=>whnf
  exact hK _ rfl
 ·have k2:n.kind=2:=of_decide_eq_true (by assumption)
  show 0<ins.length
  omega
 ·have k2:n.kind=2:=of_decide_eq_true (by assumption)
  have h0:0<ins.length:=by omega
  obtain ⟨w,hw⟩:∃ w:Nat,n.wide=w:=⟨n.wide.toNat,by omega⟩
  rw [if_neg (by omega),if_pos k2] at hK
  rw [hg0 h0] at hb0 hp1 hl1 hel hK
  rw [hw,Int.toNat_natCast] at hK
  apply Exists.intro
  apply And.intro
  ·refine ⟨ins[0],w,by rw [hw],⟨by omega,by omega,by omega⟩,?_⟩
   exact ⟨rfl,rfl⟩
  repeat' first|refine ⟨_,⟨rfl,rfl⟩,?_⟩|fail
  conv=>whnf
  exact hK _ rfl
 ·have k1:n.kind=1:=of_decide_eq_true (by assumption)
  rw [if_pos k1] at hK
  conv=>whnf
  refine ⟨f,n.file,rfl,?_⟩
  rw [hfg] at hK hfa
  refine ⟨getN f n.file,rfl,by omega,?_⟩
  skip
  conv=>whnf
  refine ⟨Bs,blV,[whole (getN f n.file)],LeL.refl _,?_⟩
  exact hK _ rfl
end Gv
namespace Gv
variable [Glob] [Laid] [Nums] [Errs]
def nodeMadeP_P:PSpec:=fun args rows K=>∃ (n:Gp.Node) (f:List FileS) (ins:List Bs),args=[nodeV n,.sl fileV f,.own 0]∧rows=[.row 1 (ins.map blV)]∧(checkN n=0∧n.ins.length=ins.length∧ins.flatten.length≤500000000∧checkFiles f=0)∧K (.sl blV (makeN n f ins)) [.fz blV ins]
theorem nodeMadeP_prim:PrimOK Tryz.prog 148 nodeMadeP_P:=by
 intro w0 m0 args rows K R m q w us C hv hT
 obtain ⟨n,f,ins,rfl,rfl,hc,hK⟩:=hT
 refine lib_ok (E:=⟨Tryz.prog,tys,[(148,nodeMadeR_S)],[],[],[]⟩) (env_ok mixed0 tys0 (.cons nodeMadeR_ca nodeMadeR_ok .nil) .nil .nil rfl) rfl C hv ?_
 conv=>whnf
 refine ⟨Bs,blV,ins,LeL.refl _,?_⟩
 conv=>whnf
 exact ⟨n,f,ins,rfl,hc,hK⟩
end Gv
namespace Gv
variable [Glob] [Laid] [Nums] [Errs]
def madeL (N:List Gp.Node) (f:List FileS) (D:Nat→Bool):List V:=(List.range N.length).map fun i=>match D i with|true=>.sl blV ((outOf f N).getD i [])|false=>.nil
theorem madeL_len (N:List Gp.Node) (f:List FileS) (D:Nat→Bool):(madeL N f D).length=N.length:=by simp [madeL]
theorem madeL_at {N:List Gp.Node} {f:List FileS} {D:Nat→Bool} {i:Nat} (h:i<N.length):(madeL N f D)[i]?=some (match D i with|true=>.sl blV ((outOf f N).getD i [])|false=>.nil):=by
 unfold madeL
 rw [List.getElem?_map,List.getElem?_range h]
 rfl
theorem madeL_yes {N:List Gp.Node} {f:List FileS} {D:Nat→Bool} {i:Nat} (h:i<N.length) (hd:D i=true):(madeL N f D)[i]?=some (.sl blV ((outOf f N).getD i [])):=by rw [madeL_at h,hd]
theorem madeL_no {N:List Gp.Node} {f:List FileS} {D:Nat→Bool} {i:Nat} (h:i<N.length) (hd:D i=false):(madeL N f D)[i]?=some .nil:=by rw [madeL_at h,hd]
def addD (D:Nat→Bool) (a:Nat):Nat→Bool:=fun i=>Nat.beq i a || D i
theorem addD_self (D:Nat→Bool) (a:Nat):addD D a a=true:=by unfold addD;rw [Nat.beq_refl];rfl
theorem madeL_set {N:List Gp.Node} {f:List FileS} {D:Nat→Bool} {a:Nat} (h:a<N.length):(madeL N f D).set a (.sl blV ((outOf f N).getD a []))=madeL N f (addD D a):=by
 refine List.ext_getElem? fun i=>?_
 rw [List.getElem?_set,madeL_len]
 by_cases e:a=i
 ·subst e
  rw [if_pos rfl,if_pos h,madeL_yes h (addD_self D a)]
 ·rw [if_neg e]
  by_cases hi:i<N.length
  ·have:addD D a i=D i := by
    unfold addD
    cases hb:Nat.beq i a with
    | false=>rfl
    | true=>exact absurd (Nat.eq_of_beq_eq_true hb).symm e
   rw [madeL_at hi,madeL_at hi,this]
  ·rw [List.getElem?_eq_none (by rw [madeL_len];omega),List.getElem?_eq_none (by rw [madeL_len];omega)]
theorem madeL_0 (N:List Gp.Node) (f:List FileS):madeL N f (fun _=>false)=List.replicate N.length .nil:=by
 unfold madeL
 refine List.ext_getElem? fun i=>?_
 rw [List.getElem?_map,List.getElem?_replicate]
 by_cases h:i<N.length
 ·rw [List.getElem?_range h,if_pos h];rfl
 ·rw [List.getElem?_eq_none (by simpa using h),if_neg h];rfl
def sunkS (F n:Nat):PSpec:=fun args rows K=>∃ (N:List Gp.Node) (f:List FileS) (D:Nat→Bool) (a b:Nat),args=[.agg [.int .i64 a,.int .i64 b],.ptr 0 0 0,.ptr 1 0 0,.ptr 2 0 0,.ptr 3 0 0]∧a<n∧(checkG N=0∧checkFiles f=0∧a<N.length∧b<nO N a) ∧
 rows=[.box [.own 4],.box [.sl nodeV N],.box [.fn F [.ptr 0 0 0,.ptr 1 0 0,.ptr 2 0 0,.ptr 3 0 0]],.box [.sl fileV f],.row 1 (madeL N f D)] ∧
 ∀ D',K (.sl byteV (Vv f N a b)) [.box [.own 4],.box [.sl nodeV N],.box [.fn F [.ptr 0 0 0,.ptr 1 0 0,.ptr 2 0 0,.ptr 3 0 0]],.box [.sl fileV f],.row 1 (madeL N f D'),.box [.int .i64 a,.int .i64 b]]
theorem flat_le3:∀ (l:List Bs) (n:Nat),(∀ b∈l,b.length≤n)→l.flatten.length≤l.length*n
 | [],n,_=>by simp
 | a::r,n,h=>by
  have h1:=h a (by simp)
  have h2:=flat_le3 r n fun b hb=>h b (by simp [hb])
  rw [List.flatten_cons,List.length_append,List.length_cons,Nat.succ_mul]
  omega
theorem ins_small {N:List Gp.Node} (hc:checkG N=0) {f:List FileS} (hf:checkFiles f=0) {a:Nat} (ha:a<N.length):(insOf (outOf f N) (ndG N a).ins).flatten.length≤500000000:=by
 have G:=gf_of hc
 have h1:=wSum_cnt N
 have h60:=G.len.2
 have hcn:cnt 1 N≤N.length:=by unfold cnt;exact List.length_filter_le _ _
 have hw:wSum N N.length≤250000:=by
  unfold wSum
  rw [List.take_length]
  omega
 have hi5:=ins_le (G.node a ha)
 have h2:=flat_le3 (insOf (outOf f N) (ndG N a).ins) 250000 fun b hb=>by
  obtain ⟨k,hk,rfl⟩:=List.getElem_of_mem hb
  have hk2:k<nI N a:=by rw [ins_len] at hk;exact hk
  have e:(insOf (outOf f N) (ndG N a).ins)[k]=Vi f N a k:=by
   have:=ins_at f N (i:=a) hk2
   rw [List.getD_eq_getElem?_getD,List.getElem?_eq_getElem hk] at this
   exact this
  obtain ⟨j,o,h3,h4,h5⟩:=G.port a ha k hk2
  rw [e,Vi_eq h3]
  exact Nat.le_trans (Vv_len hc f (fun x hx=>((checkFiles_ok hf).2 x hx).2) j o) hw
 have h3:(insOf (outOf f N) (ndG N a).ins).length≤5:=by rw [ins_len];exact hi5
 exact Nat.le_trans h2 (Nat.le_trans (Nat.mul_le_mul_right _ h3) (by decide))
theorem sunkF_ca:callable Tryz.prog 147=true:=by kernel_rfl
def sunkF_P:PSpec:=fun args rows K=>∃ n,sunkS 147 n args rows K
theorem sunkF_prim:PrimOK Tryz.prog 147 sunkF_P:=by
 have step:∀ n,PrimOK Tryz.prog 147 (sunkS 147 n)→PrimOK Tryz.prog 147 (sunkS 147 (n+1)):=by
  intro n ih
  refine prim_by (env_ok (P:=Tryz.prog) (tys:=tys) (lib:=[]) (fns:=[]) (prims:=[(147,sunkS 147 n),(148,nodeMadeP_P)]) (eqs:=[]) mixed0 tys0 .nil .nil (.cons ih (.cons nodeMadeP_prim .nil)) rfl) 6 sunkF_ca (fi:={fn:=Tryz.f147,hooks:=[11],draws:=[(2,[0,0,2,7,15,0,32,127,255,511]),(10,[0,0,2,0,0,0,56,127,255]),(11,[0,0,2,7,15,0,32,127,255,511])]}) ⟨Tryz.func147,by kernel_rfl,by kernel_rfl⟩ ?_
  rintro args rows K ⟨N,f,D,a,b,rfl,han,⟨hc,hf,hal,hbl⟩,rfl,hK⟩
  have G:=gf_of hc
  have hol:((outOf f N).getD a []).length=nO N a:=ofg_len G f hal
  have hell:∀ D,a<(madeL N f D).length:=fun D=>by rw [madeL_len];exact hal
  have hnd:ndG N a=N[a]:=ndG_at hal
  have hbo:b<((outOf f N).getD a []).length:=by rw [hol];exact hbl
  have hVv:Vv f N a b=((outOf f N).getD a [])[b]:=by
   unfold Vv
   rw [List.getD_eq_getElem?_getD (i:=b),List.getElem?_eq_getElem hbo];rfl
  conv=>whnf
  repeat' first|refine ⟨rfl,?_⟩|fail
  refine ⟨a,rfl,hell D,?_⟩
  conv=>whnf
  cases hDa:D a
  rotate_left
  ·have hs:=madeL_yes (f:=f) hal hDa
   refine ⟨_,hs,?_⟩
   conv=>whnf
   refine fun bb hbb=>?_
   cases bb with
   | true =>
    exfalso
    have:=hbb rfl
    rw [this] at hol
    simp at hol
    omega
   | false =>
    conv=>whnf
    repeat' first|exact True.intro|(refine fun (b:Bool) hb=>?_;cases b<;>first|exact absurd hb (by decide)|exact nfl hb|exact nfr hb|skip)|refine ⟨_,⟨rfl,rfl⟩,?_⟩|refine And.intro (a:=chkPast _ _ _ _ _ _ _ _) ?_ ?_|fail
    conv=>whnf
    apply Exists.intro
    apply And.intro
    ·refine ⟨rfl,a,rfl,hell _,?_⟩
     exact ⟨rfl,rfl⟩
    conv=>whnf
    refine ⟨trivial,?_⟩
    conv=>whnf
    apply Exists.intro
    apply And.intro
    ·conv=>whnf
     refine ⟨_,hs,?_⟩
     exact ⟨rfl,rfl⟩
    conv=>whnf
    refine ⟨trivial,?_⟩
    conv=>whnf
    repeat' first|exact True.intro|refine ⟨_,⟨rfl,rfl⟩,?_⟩|refine And.intro (a:=chkPast _ _ _ _ _ _ _ _) ?_ ?_|refine ⟨_,⟨_,rfl,?_,rfl,rfl,rfl⟩,?_⟩|fail
    ·exact hbo
    conv=>whnf
    skip
    have hfin:=hK D
    rw [hVv] at hfin
    exact hfin
  ·have hil:(ndG N a).ins.length=nI N a:=rfl
   have hni:nI N a=N[a].ins.length:=by unfold nI;rw [hnd]
   have hi5:=ins_le (G.node a hal)
   obtain ⟨I,hI⟩:∃ I,insOf (outOf f N) (ndG N a).ins=I:=⟨_,rfl⟩
   have hIl:I.length=nI N a:=by rw [←hI];exact ins_len _ _ _
   have hIs:I.flatten.length≤500000000:=by rw [←hI];exact ins_small hc hf hal
   refine ⟨_,madeL_no (f:=f) hal hDa,?_⟩
   conv=>whnf
   repeat' first|(refine fun (hl:_≤MAXL)=>?_)|refine ⟨_,rfl,?_,rfl,?_⟩|fail
   ·exact hal
   conv=>whnf
   refine loop_live [1,3,4,5,7,33,34] (σ:=Nat × (Nat→Bool)) (fun s=>[(35,.int .i64 s.1),(8,.own 7)]) (fun s=>[.box [.own 4],.box [.sl nodeV N],.box [.fn 147 [.ptr 0 0 0,.ptr 1 0 0,.ptr 2 0 0,.ptr 3 0 0]],.box [.sl fileV f],.row 1 (madeL N f s.2),.box [.int .i64 a,.int .i64 b],.box (nodeV N[a]).cells,.row 1 ((I.take s.1).map blV)]) (fun s=>s.1≤N[a].ins.length) (fun s=>N[a].ins.length-s.1) (0,D) ?_
   conv=>whnf
   refine ⟨(by (refine wk_sel [some 0,some 1,some 2,some 3,some 4,some 5,some 6,none] rfl rfl ?_ ?_<;>(repeat' first|exact True.intro|exact rfl|exact .inl rfl|exact .inr rfl|refine And.intro ?_ ?_|fail))),Nat.zero_le _,fun s hs=>?_⟩
   obtain ⟨k,D1⟩:=s
   dsimp only at hs
   repeat' first|(refine fun (b:Bool) hb=>?_;cases b<;>first|exact absurd hb (by decide)|exact nfl hb|exact nfr hb|skip)|refine ⟨_,rfl,?_,rfl,?_⟩|fail
   ·have hkl:k=N[a].ins.length := by
     have h:=of_decide_eq_false (by assumption:decide ((k:Int)<(N[a].ins.length:Int))=false)
     omega
    subst hkl
    have htk:I.take N[a].ins.length=I:=List.take_of_length_le (by omega)
    conv=>whnf
    refine join_live [1] (σ:=Nat→Bool) (fun _=>[(5,.ptr 5 0 0)]) (fun D2=>[.box [.own 4],.box [.sl nodeV N],.box [.fn 147 [.ptr 0 0 0,.ptr 1 0 0,.ptr 2 0 0,.ptr 3 0 0]],.box [.sl fileV f],.row 1 (madeL N f D2),.box [.int .i64 a,.int .i64 b]]) (fun D2=>D2 a=true) ?_
    conv=>whnf
    refine ⟨?_,fun D2 hD2=>?_⟩
    ·rw [htk]
     conv=>whnf
     repeat' first|exact True.intro|refine ⟨_,⟨rfl,rfl⟩,?_⟩|refine And.intro (a:=chkPast _ _ _ _ _ _ _ _) ?_ ?_|fail
     conv=>whnf
     skip
     apply Exists.intro
     apply Exists.intro
     apply And.intro
     ·refine ⟨N[a],f,I,rfl,rfl,⟨by rw [←hnd];exact G.node a hal,by omega,hIs,hf⟩,?_⟩
      repeat' first|refine ⟨rfl,?_⟩|fail
      exact rfl
     conv=>whnf
     repeat' first|exact True.intro|refine And.intro (a:=chkPend _ _ _ _ _ _) ?_ ?_|refine ⟨⟨rfl,rfl⟩,?_⟩|fail
     apply Exists.intro
     apply And.intro
     ·refine ⟨rfl,a,rfl,hell _,?_⟩
      exact ⟨rfl,rfl⟩
     conv=>whnf
     refine ⟨trivial,?_⟩
     conv=>whnf
     apply Exists.intro
     apply Exists.intro
     apply And.intro
     ·conv=>whnf
      refine ⟨hell _,?_⟩
      exact ⟨rfl,rfl⟩
     conv=>whnf
     repeat' first|exact True.intro|refine And.intro (a:=chkPend _ _ _ _ _ _) ?_ ?_|fail
     have hmk:makeN N[a] f I=(outOf f N).getD a []:=by rw [out_at G f hal,hI,hnd]
     rw [hmk,madeL_set hal]
     exact ⟨addD D1 a,(by (refine wk_sel [some 0,some 1,some 2,some 3,some 4,some 5] rfl rfl ?_ ?_<;>(repeat' first|exact True.intro|exact rfl|exact .inl rfl|exact .inr rfl|refine And.intro ?_ ?_|fail))),addD_self _ _⟩
    have hs2:=madeL_yes (f:=f) hal hD2
    conv=>whnf
    repeat' first|exact True.intro|refine ⟨_,⟨rfl,rfl⟩,?_⟩|refine And.intro (a:=chkPast _ _ _ _ _ _ _ _) ?_ ?_|fail
    conv=>whnf
    apply Exists.intro
    apply And.intro
    ·refine ⟨rfl,a,rfl,hell _,?_⟩
     exact ⟨rfl,rfl⟩
    conv=>whnf
    refine ⟨trivial,?_⟩
    conv=>whnf
    apply Exists.intro
    apply And.intro
    ·conv=>whnf
     refine ⟨_,hs2,?_⟩
     exact ⟨rfl,rfl⟩
    conv=>whnf
    refine ⟨trivial,?_⟩
    conv=>whnf
    repeat' first|exact True.intro|refine ⟨_,⟨rfl,rfl⟩,?_⟩|refine And.intro (a:=chkPast _ _ _ _ _ _ _ _) ?_ ?_|refine ⟨_,⟨_,rfl,?_,rfl,rfl,rfl⟩,?_⟩|fail
    ·exact hbo
    conv=>whnf
    skip
    have hfin:=hK D2
    rw [hVv] at hfin
    exact hfin
   ·have h:=of_decide_eq_true (by assumption:decide ((k:Int)<(N[a].ins.length:Int))=true)
    show k<N[a].ins.length
    omega
   have hk2:k<N[a].ins.length:=by
    have h:=of_decide_eq_true (by assumption:decide ((k:Int)<(N[a].ins.length:Int))=true)
    omega
   obtain ⟨j,o,h3,h4,h5⟩:=G.port a hal k (by omega)
   have hp:N[a].ins[k]=⟨(j:Int),(o:Int)⟩:=by
    rw [←h3]
    unfold inP
    rw [hnd,List.getD_eq_getElem?_getD,List.getElem?_eq_getElem hk2]
    rfl
   conv=>whnf
   rw [hp]
   skip
   refine ⟨N,f,D1,j,o,rfl,by omega,⟨hc,hf,by omega,h5⟩,rfl,fun D2=>?_⟩
   have hkI:k<I.length:=by omega
   have hIk:I[k]=Vv f N j o:=by
    have h6:=ins_at f N (i:=a) (k:=k) (by omega)
    rw [hI,List.getD_eq_getElem?_getD,List.getElem?_eq_getElem hkI] at h6
    rw [←Vi_eq h3]
    exact h6
   conv=>whnf
   repeat' first|refine And.intro (a:=I64 _) ?_ ?_|refine And.intro (a:=_≤140737488355328) ?_ ?_|refine ⟨rfl,?_⟩|fail
   ·show (((I.take k).map blV).length+1)*24≤_
    rw [List.length_map,List.length_take];omega
   ·unfold I64;dsimp only;omega
   conv=>whnf
   refine ⟨(k+1,D2),?_,hk2,by show N[a].ins.length-(k+1)<N[a].ins.length-k;omega⟩
   (refine wk_auto ?_;refine Sel4.mk rfl rfl ?_ ?_<;>(repeat' first|exact True.intro|exact rfl|exact .inl rfl|exact .inr rfl|refine And.intro ?_ ?_|fail))
   show Row.row 1 _=Row.row 1 _
   rw [List.take_succ_eq_append_getElem hkI,List.map_append,hIk]
   rfl
 have all:∀ n,PrimOK Tryz.prog 147 (sunkS 147 n):=by
  intro n
  induction n with
  | zero =>
   intro w0 m0 args rows K R m' q w us C hv hT
   obtain ⟨N,f,D,a,b,h1,h2,h3⟩:=hT
   omega
  | succ n ih=>exact step n ih
 intro w0 m0 args rows K R m' q w us C hv hT
 obtain ⟨n,hT⟩:=hT
 exact all n w0 m0 args rows K R m' q w us C hv hT
end Gv
namespace Gv
variable [Glob] [Laid] [Nums] [Errs]
theorem prim_dead {P:Program} {f:FuncId} {T:PSpec} (r:Nat) (h:PrimOK P f T):PrimOK P f (fun args rows k=>T args rows fun v rows'=>k v (rows'.set r .dead)):=by
 intro w0 m0 args rows k R m q w us C hv hT
 obtain ⟨h1,h2⟩:=h w0 m0 args rows _ R m q w us C hv hT
 refine ⟨h1,h2.mono fun e w' ⟨u,he,v,rows',R',m',q',hk,C',hm',hq',hvu⟩=>?_⟩
 have old:∀ (j:Nat) z,(rows'.set r .dead)[j]?=some z→z=.dead∨rows'[j]?=some z:=fun j z hz=>by
  by_cases g:r=j
  ·subst g
   by_cases hl:r<rows'.length
   ·rw [List.getElem?_set_self hl] at hz
    cases hz
    exact .inl rfl
   ·rw [List.getElem?_eq_none (by rw [List.length_set];omega)] at hz
    cases hz
  ·rw [List.getElem?_set_ne g] at hz
   exact .inr hz
 refine ⟨u,he,v,_,R',m',q',hk,⟨C'.sit,⟨fun x y hx=>?_,fun j z hz=>?_,fun j j' z z' b hz hz' hy hy' hb hb'=>?_⟩⟩,hm',hq',hvu⟩
 ·rw [List.length_set]
  exact C'.rok.fresh x y hx
 ·rcases old j z hz with rfl|hz
  ·trivial
  ·exact C'.rok.row j z hz
 ·rcases old j z hz with rfl|hz
  ·cases hy
  ·rcases old j' z' hz' with rfl|hz'
   ·cases hy'
   ·exact C'.rok.apart j j' z z' b hz hz' hy hy' hb hb'
def sunkD_P:PSpec:=fun args rows K=>∃ (N:List Gp.Node) (f:List FileS) (D:Nat→Bool) (a b:Nat),args=[.agg [.int .i64 a,.int .i64 b],.ptr 0 0 0,.ptr 1 0 0,.ptr 2 0 0,.ptr 3 0 0]∧(checkG N=0∧checkFiles f=0∧a<N.length∧b<nO N a)∧rows=[.box [.own 4],.box [.sl nodeV N],.box [.fn 147 [.ptr 0 0 0,.ptr 1 0 0,.ptr 2 0 0,.ptr 3 0 0]],.box [.sl fileV f],.row 1 (madeL N f D)]∧K (.sl byteV (Vv f N a b)) [.box [.own 4],.box [.sl nodeV N],.box [.fn 147 [.ptr 0 0 0,.ptr 1 0 0,.ptr 2 0 0,.ptr 3 0 0]],.box [.sl fileV f],.dead,.box [.int .i64 a,.int .i64 b]]
theorem sunkD_prim:PrimOK Tryz.prog 147 sunkD_P:=by
 intro w0 m0 args rows K R m q w us C hv hT
 obtain ⟨N,f,D,a,b,rfl,hc,rfl,hK⟩:=hT
 exact prim_dead 4 sunkF_prim w0 m0 _ _ K R m q w us C hv ⟨a+1,N,f,D,a,b,rfl,Nat.lt_succ_self a,hc,rfl,fun D'=>hK⟩
end Gv
namespace Gv
variable [Glob] [Laid] [Nums] [Errs]
theorem sunkenR_ca:callable Tryz.prog 84=true:=by kernel_rfl
def sunkenR_S:Spec:=fun args K=>∃ (N:List Gp.Node) (f:List FileS),args=[.agg [.sl nodeV N],.sl fileV f]∧(checkG N=0∧checkFiles f=0)∧K (.sl byteV (Vi f N (N.length-1) 0))
noncomputable def sunkenR_lib:List (Nat × Spec):=[]
noncomputable def sunkenR_fns:List (Nat × FnI):=[]
noncomputable def sunkenR_prims:List (Nat × PSpec):=[(147,sunkD_P)]
theorem sunkenR_E:EnvOK ⟨Tryz.prog,tys,sunkenR_lib,sunkenR_fns,sunkenR_prims,[]⟩:=env_ok mixed0 tys0 .nil .nil (.cons sunkD_prim .nil) rfl
theorem sunkenR_ok:Pure Tryz.prog 84 sunkenR_S:=by
 refine pure_by sunkenR_E 6 (fi:={fn:=Tryz.f84,hooks:=[],draws:=[(4,[0,0,2,0,8,24,56,126,254,510,1022,2046,4095,8191])]}) ⟨Tryz.func84,by kernel_rfl,by kernel_rfl⟩ ?_
 rintro _ K ⟨N,f,rfl,⟨hc,hf⟩,hK⟩
 replace hK:∀ r,r=.sl byteV (Vi f N (N.length-1) 0)→K r:=fun r h=>h ▸ hK
 have G:=gf_of hc
 have hnl:=G.len
 obtain ⟨L,hL⟩:∃ L,N.length-1=L:=⟨_,rfl⟩
 have hLl:L<N.length:=by omega
 have hs:=sink_at G
 rw [hL] at hs hK
 have hi0:0<N[L].ins.length:=by
  have:=hs.2
  unfold nI at this
  rw [ndG_at hLl] at this
  omega
 have hni:nI N L=N[L].ins.length:=by unfold nI;rw [ndG_at hLl]
 obtain ⟨j,o,h3,h4,h5⟩:=G.port L hLl 0 (by omega)
 have hp:N[L].ins[0]=⟨(j:Int),(o:Int)⟩:=by
  rw [←h3]
  unfold inP
  rw [ndG_at hLl,List.getD_eq_getElem?_getD,List.getElem?_eq_getElem hi0]
  rfl
 rw [Vi_eq h3] at hK
 repeat' first|(refine fun (hl:_≤MAXL)=>?_)|refine ⟨rfl,?_⟩|fail
 conv=>whnf
 refine ⟨N.length,rfl,by show N.length*24≤_;omega,?_⟩
 conv=>whnf
 repeat' first|exact True.intro|refine ⟨_,⟨rfl,rfl⟩,?_⟩|refine ⟨_,And.intro (a:=I64 _) ?_ ⟨rfl,rfl⟩,?_⟩|refine ⟨_,(fun _=>⟨rfl,rfl⟩),?_⟩|refine And.intro (a:=chkPast _ _ _ _ _ _ _ _) ?_ ?_|fail
 ·unfold I64;omega
 conv=>whnf
 refine ⟨_,⟨L,by omega,hLl,rfl,rfl,rfl⟩,?_⟩
 conv=>whnf
 repeat' first|refine ⟨_,⟨rfl,rfl⟩,?_⟩|refine ⟨_,⟨_,rfl,?_,rfl,rfl,rfl⟩,?_⟩|fail
 ·exact hi0
 rw [hp]
 conv=>whnf
 skip
 apply Exists.intro
 apply Exists.intro
 apply And.intro
 ·refine ⟨N,f,fun _=>false,j,o,rfl,⟨hc,hf,by omega,h5⟩,by rw [madeL_0],?_⟩
  conv=>whnf
  exact ⟨rfl,rfl⟩
 conv=>whnf
 repeat' first|exact True.intro|refine ⟨_,⟨rfl,rfl⟩,?_⟩|refine And.intro (a:=chkPend _ _ _ _ _ _) ?_ ?_|fail
 conv=>whnf
 skip
 exact hK _ rfl
end Gv
namespace Gv
variable [Glob] [Laid] [Nums] [Errs]
def gSays_S:Spec:=fun args K=>∃ (N M:List Gp.Node) (F:List FileS) (n:Gp.Node),args=[.agg [.sl nodeV N],.agg [.sl nodeV M],.sl fileV F,nodeV n]∧K (.bool true)
noncomputable def gSays_lib:List (Nat × Spec):=[(69,evalG_S),(79,checkGR_S),(81,sameGR_S),(80,same_S),(82,outs_S),(83,outsR_S),(21,cfilesR_S),(70,flowed_S),(24,equalB_S),(78,checkG_S),(84,sunkenR_S)]
noncomputable def gSays_fns:List (Nat × FnI):=[]
noncomputable def gSays_prims:List (Nat × PSpec):=[]
theorem gSays_E:EnvOK ⟨Tryz.prog,tys,gSays_lib,gSays_fns,gSays_prims,[]⟩:=env_ok mixed0 tys0 (.cons evalG_ca evalG_ok (.cons checkGR_ca checkGR_ok (.cons sameGR_ca sameGR_ok (.cons same_ca same_ok (.cons outs_ca outs_ok (.cons outsR_ca outsR_ok (.cons cfilesR_ca cfilesR_ok (.cons flowed_ca flowed_ok (.cons equalB_ca equalB_ok (.cons checkG_ca checkG_ok (.cons sunkenR_ca sunkenR_ok .nil))))))))))) .nil .nil rfl
theorem gSays_ok:Pure Tryz.prog 13 gSays_S:=by
 refine pure_by gSays_E 6 (fi:={fn:=Tryz.f13,hooks:=[5],draws:=[(3,[0,1,3,7,15,7,63,127,255,511,511,2047,511,511,16383,32767,65535,131071,262143,524287,262143,2097151,4194303,8388607])]}) ⟨Tryz.func13,by kernel_rfl,by kernel_rfl⟩ ?_
 rintro _ K ⟨N,M,F,n,rfl,hK⟩
 replace hK:∀ r,r=.bool true→K r:=fun r h=>h ▸ hK
 conv=>whnf
 refine ⟨N,F,rfl,?_⟩
 skip
 refine ⟨N,rfl,?_⟩
 skip
 conv=>whnf
 refine join_live [2,4,9,10,11] (σ:=Unit) (fun _=>[]) (fun _=>[.box [.sl nodeV N],.box [.sl nodeV M],.box (nodeV n).cells]) (fun _=>True) ?_
 conv=>whnf
 refine ⟨?_,fun _ _=>?_⟩
 ·conv=>whnf
  apply Exists.intro
  apply And.intro
  ·refine ⟨rfl,?_⟩
   exact ⟨rfl,rfl⟩
  repeat' first|exact True.intro|(refine fun (b:Bool) hb=>?_;cases b<;>first|exact absurd hb (by decide)|exact nfl hb|exact nfr hb|skip)|refine ⟨_,⟨rfl,rfl⟩,?_⟩|refine And.intro (a:=chkPast _ _ _ _ _ _ _ _) ?_ ?_|fail
  conv=>whnf
  apply Exists.intro
  apply And.intro
  ·refine ⟨N,rfl,?_⟩
   exact ⟨rfl,rfl⟩
  repeat' first|exact True.intro|(refine fun (b:Bool) hb=>?_;cases b<;>first|exact absurd hb (by decide)|exact nfl hb|exact nfr hb|skip)|refine ⟨_,⟨rfl,rfl⟩,?_⟩|refine And.intro (a:=chkPast _ _ _ _ _ _ _ _) ?_ ?_|fail
  rotate_left
  ·exact absurd (by assumption:(!decide (checkG N=checkG N))=true) (by simp)
  conv=>whnf
  apply Exists.intro
  apply And.intro
  ·refine ⟨N,M,rfl,?_⟩
   exact ⟨rfl,rfl⟩
  repeat' first|exact True.intro|refine ⟨_,⟨rfl,rfl⟩,?_⟩|refine And.intro (a:=chkPast _ _ _ _ _ _ _ _) ?_ ?_|fail
  conv=>whnf
  apply Exists.intro
  apply And.intro
  ·refine ⟨N,M,rfl,?_⟩
   exact ⟨rfl,rfl⟩
  repeat' first|exact True.intro|(refine fun (b:Bool) hb=>?_;cases b<;>first|exact absurd hb (by decide)|exact nfl hb|exact nfr hb|skip)|refine ⟨_,⟨rfl,rfl⟩,?_⟩|refine And.intro (a:=chkPast _ _ _ _ _ _ _ _) ?_ ?_|fail
  rotate_left
  ·exact absurd (by assumption:(!decide (N=M) == decide (N=M))=true) (by simp)
  conv=>whnf
  apply Exists.intro
  apply And.intro
  ·refine ⟨n,rfl,?_⟩
   exact ⟨rfl,rfl⟩
  repeat' first|exact True.intro|refine ⟨_,⟨rfl,rfl⟩,?_⟩|refine And.intro (a:=chkPast _ _ _ _ _ _ _ _) ?_ ?_|fail
  conv=>whnf
  apply Exists.intro
  apply And.intro
  ·refine ⟨n,rfl,?_⟩
   exact ⟨rfl,rfl⟩
  repeat' first|(refine fun (b:Bool) hb=>?_;cases b<;>first|exact absurd hb (by decide)|exact nfl hb|exact nfr hb|skip)|refine ⟨_,⟨rfl,rfl⟩,?_⟩|fail
  ·conv=>whnf
   exact ⟨(),(by (refine wk_auto ?_;refine Sel4.mk rfl rfl ?_ ?_<;>(repeat' first|exact True.intro|exact rfl|exact .inl rfl|exact .inr rfl|refine And.intro ?_ ?_|fail))),trivial⟩
  ·exact absurd (by assumption:(!decide (outsN n=outsN n))=true) (by simp)
 have hnz:∀ {b:Bool},(!b)=true→b=false:=fun h=>by simpa using h
 by_cases hc:checkG N=0
 ·by_cases hf:checkFiles F=0
  ·have he:evalG N F=(Vi F N (N.length-1) 0, 0) := by
    unfold evalG
    rw [if_neg (by rw [hc];decide),if_neg (by rw [hf];decide)]
    exact evalGo_end F N (gf_of hc)
   rw [he,hc]
   conv=>whnf
   repeat' first|(refine fun (b:Bool) hb=>?_;cases b<;>first|exact absurd hb (by decide)|exact nfl hb|exact nfr hb|skip)|fail
   ·conv=>whnf
    refine ⟨F,rfl,?_⟩
    rw [hf]
    repeat' first|(refine fun (b:Bool) hb=>?_;cases b<;>first|exact absurd hb (by decide)|exact nfl hb|exact nfr hb|skip)|fail
    conv=>whnf
    refine ⟨N,F,rfl,⟨hc,hf⟩,?_⟩
    skip
    refine ⟨Vi F N (N.length-1) 0,Vi F N (N.length-1) 0,rfl,?_⟩
    skip
    refine hK _ (congrArg V.bool ?_)
    simp
  ·have he:evalG N F=([], checkFiles F) := by
    unfold evalG
    rw [if_neg (by rw [hc];decide),if_pos hf]
   rw [he,hc]
   conv=>whnf
   repeat' first|(refine fun (b:Bool) hb=>?_;cases b<;>first|exact absurd hb (by decide)|exact nfl hb|exact nfr hb|skip)|fail
   ·conv=>whnf
    refine ⟨F,rfl,?_⟩
    repeat' first|(refine fun (b:Bool) hb=>?_;cases b<;>first|exact absurd hb (by decide)|exact nfl hb|exact nfr hb|skip)|(refine fun (hl:_≤MAXL)=>?_)|fail
    ·exact absurd (by assumption:(!decide (checkFiles F=0))=false) (by simp [hf])
    ·exact absurd (by assumption:(!decide (checkFiles F=0))=false) (by simp [hf])
    ·exact absurd (by assumption:decide (([],checkFiles F).2=checkFiles F)=false) (by simp)
    ·conv=>whnf
     exact hK _ rfl
 ·have he:evalG N F=([], checkG N) := by
   unfold evalG
   rw [if_pos hc]
  rw [he]
  conv=>whnf
  repeat' first|(refine fun (b:Bool) hb=>?_;cases b<;>first|exact absurd hb (by decide)|exact nfl hb|exact nfr hb|skip)|(refine fun (hl:_≤MAXL)=>?_)|fail
  ·exact absurd (by assumption:(!decide (checkG N=0))=false) (by simp [hc])
  ·exact absurd (by assumption:(!decide (checkG N=0))=false) (by simp [hc])
  ·exact absurd (by assumption:decide (([],checkG N).2=checkG N)=false) (by simp)
  ·conv=>whnf
   exact hK _ rfl
  ·exact absurd (by assumption:decide (checkG N=0)=true) (by simp [hc])
end Gv
namespace Gv
variable [Glob] [Laid]
theorem opn_cmd:Opn Tryz.prog 48 cmdV (fun _=>True):=⟨fun en w fuel cs d p h hw=>by
 have hl:cs.length=3:=(opn_width Tryz.underlying48 h).trans (by kernel_rfl)
 obtain ⟨k,_,f1⟩:=opn_field 0 0 1 (T:=3) Tryz.underlying48 rfl rfl rfl (by kernel_rfl) (opn_int Tryz.underlying3) h hw
 obtain ⟨s,_,f2⟩:=opn_field 1 1 1 (T:=9) Tryz.underlying48 rfl rfl rfl (by kernel_rfl) (opn_str Tryz.underlying9) h hw
 obtain ⟨n,_,f3⟩:=opn_field 2 2 1 (T:=3) Tryz.underlying48 rfl rfl rfl (by kernel_rfl) (opn_int Tryz.underlying3) h hw
 have:=Fit.cons 0 1 f1 rfl (Fit.cons 1 2 f2 rfl (Fit.cons 2 3 f3 rfl (Fit.last 3 hl)))
 rw [List.drop_zero] at this
 exact ⟨⟨k,s,n⟩,trivial,this⟩⟩
end Gv
namespace Gv
variable [Glob] [Laid]
theorem opn_port:Opn Tryz.prog 173 portV (fun _=>True):=⟨fun en w fuel cs d p h hw=>by
 have hl:cs.length=2:=(opn_width Tryz.underlying173 h).trans (by kernel_rfl)
 obtain ⟨k,_,f1⟩:=opn_field 0 0 1 (T:=3) Tryz.underlying173 rfl rfl rfl (by kernel_rfl) (opn_int Tryz.underlying3) h hw
 obtain ⟨n,_,f3⟩:=opn_field 1 1 1 (T:=3) Tryz.underlying173 rfl rfl rfl (by kernel_rfl) (opn_int Tryz.underlying3) h hw
 have:=Fit.cons 0 1 f1 rfl (Fit.cons 1 2 f3 rfl (Fit.last 2 hl))
 rw [List.drop_zero] at this
 exact ⟨⟨k,n⟩,trivial,this⟩⟩
theorem opn_node:Opn Tryz.prog 99 nodeV (fun _=>True):=⟨fun en w fuel cs d p h hw=>by
 have hl:cs.length=8:=(opn_width Tryz.underlying99 h).trans (by kernel_rfl)
 obtain ⟨k,_,f1⟩:=opn_field 0 0 1 (T:=3) Tryz.underlying99 rfl rfl rfl (by kernel_rfl) (opn_int Tryz.underlying3) h hw
 obtain ⟨s,_,f2⟩:=opn_field 1 1 1 (T:=9) Tryz.underlying99 rfl rfl rfl (by kernel_rfl) (opn_str Tryz.underlying9) h hw
 obtain ⟨c,_,f3⟩:=opn_field 2 2 3 (T:=48) Tryz.underlying99 rfl rfl rfl (by kernel_rfl) opn_cmd h hw
 obtain ⟨ho,_,f4⟩:=opn_field 3 5 1 (T:=3) Tryz.underlying99 rfl rfl rfl (by kernel_rfl) (opn_int Tryz.underlying3) h hw
 obtain ⟨wi,_,f5⟩:=opn_field 4 6 1 (T:=3) Tryz.underlying99 rfl rfl rfl (by kernel_rfl) (opn_int Tryz.underlying3) h hw
 obtain ⟨n,_,f6⟩:=opn_field 5 7 1 (T:=97) Tryz.underlying99 rfl rfl rfl (by kernel_rfl) (opn_slice (k:=2) Tryz.underlying97 (by kernel_rfl) (by omega) opn_port) h hw
 have:=Fit.cons 0 1 f1 rfl (Fit.cons 1 2 f2 rfl (Fit.cons 2 5 f3 rfl (Fit.cons 5 6 f4 rfl (Fit.cons 6 7 f5 rfl (Fit.cons 7 8 f6 rfl (Fit.last 8 hl))))))
 rw [List.drop_zero] at this
 exact ⟨⟨k,s,c,ho,wi,n⟩,trivial,this⟩⟩
theorem opn_graph:Opn Tryz.prog 94 (fun N:List Gp.Node=>.agg [.sl nodeV N]) (fun _=>True):=⟨fun en w fuel cs d p h hw=>by
 have hl:cs.length=1:=(opn_width Tryz.underlying94 h).trans (by kernel_rfl)
 obtain ⟨k,_,f1⟩:=opn_field 0 0 1 (T:=92) Tryz.underlying94 rfl rfl rfl (by kernel_rfl) (opn_slice (k:=8) Tryz.underlying92 (by kernel_rfl) (by omega) opn_node) h hw
 have:=Fit.cons 0 1 f1 rfl (Fit.last 1 hl)
 rw [List.drop_zero] at this
 exact ⟨k,trivial,this⟩⟩
theorem opn_file:Opn Tryz.prog 67 fileV (fun _=>True):=⟨fun en w fuel cs d p h hw=>by
 have hl:cs.length=2:=(opn_width Tryz.underlying67 h).trans (by kernel_rfl)
 obtain ⟨k,_,f1⟩:=opn_field 0 0 1 (T:=9) Tryz.underlying67 rfl rfl rfl (by kernel_rfl) (opn_str Tryz.underlying9) h hw
 obtain ⟨n,_,f3⟩:=opn_field 1 1 1 (T:=29) Tryz.underlying67 rfl rfl rfl (by kernel_rfl) (opn_slice (k:=1) Tryz.underlying29 (by kernel_rfl) (by omega) (opn_byte Tryz.underlying5)) h hw
 have:=Fit.cons 0 1 f1 rfl (Fit.cons 1 2 f3 rfl (Fit.last 2 hl))
 rw [List.drop_zero] at this
 exact ⟨⟨k,n⟩,trivial,this⟩⟩
end Gv
namespace Gv
variable [Glob] [Laid] [Nums] [Errs]
theorem gSaysT_ok:Pure Tryz.prog 13 gSays_S:=gSays_ok
end Gv
