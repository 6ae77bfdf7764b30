/- What functions of the program come to, part 2: in every world; the conditions stand in each theorem. -/
import Derived.Test.YtffljdmmambdjabGreatDoorF1
set_option linter.unusedVariables false
set_option linter.unusedSectionVars false
set_option linter.unusedSimpArgs false
set_option maxHeartbeats 16000000
open Go Go.Proofs Gw Gp
namespace Gv
variable [Glob] [Laid] [Nums] [Errs]
theorem el_put:∀ {l:List Bs} {s:Bs},s∈l→s.length≤(put l).length
 | a::r,s,h=>by
  simp only [put,List.length_append,List.length_cons]
  rcases List.mem_cons.1 h with rfl|h
  ·omega
  ·have:=el_put h
   omega
theorem cameD_ca:callable Tryz.prog 260=true:=by kernel_rfl
def cameD_P:PSpec:=fun args rows K=>∃ (m:MachS) (i:Nat) (els:List V) (b:Bs),args=[.ptr 0 0 0,.int .i64 i,.sl byteV b]∧FocOK m i els∧((∀ q∈m.pipes,checkPipe q=0)∧0≤(pr m i).pos∧(pr m i).pos<(nI m.g i:Int)∧(pr m i).got.flatten.length+b.length≤400000∧m.sunk.length≤500000)∧rows=focR m i els∧(∀ ex,K (.tup []) (focR (cameM m i b) i els++ex))∧(∀ ex,(ndG m.g i).kind=5→K (.tup []) ([.box [.sl nodeV m.g,.sl fileV m.f,.own 1,.own 2,.sl byteV (m.sunk++(gotK m i (pr m i).pos.toNat++b))],.row 4 (m.pipes.map pipeV),.rowq 5 (els.set i (procF (pr m i))),.row 1 (((pr m i).got.map blV).set (pr m i).pos.toNat .nil),.row 1 ((pr m i).out.map blV)]++ex))
noncomputable def cameD_lib:List (Nat × Spec):=[(296,concatB_S),(123,linesL_S),(98,linesC_S),(97,put_S),(126,cloneB_S),(34,each_S),(195,inputsX_S),(299,shut_S),(298,countB_S),(316,lastB_S)]
noncomputable def cameD_fns:List (Nat × FnI):=[(297,{fn:=Tryz.f297,hooks:=[],draws:=[]}),(258,{ fn:=Tryz.f258,spec:=some fullF_P })]
noncomputable def cameD_prims:List (Nat × PSpec):=[]
theorem cameD_E:EnvOK ⟨Tryz.prog,tys,cameD_lib,cameD_fns,cameD_prims,[]⟩:=env_ok mixed0 tys0 (.cons concatB_ca concatB_ok (.cons linesL_ca linesL_ok (.cons linesC_ca linesC_ok (.cons put_ca put_ok (.cons cloneB_ca cloneB_ok (.cons each_ca each_ok (.cons inputsX_ca inputsX_ok (.cons shut_ca shut_ok (.cons countB_ca countB_ok (.cons lastB_ca lastB_ok .nil)))))))))) (.cons (by kernel_rfl) ⟨Tryz.func297,by kernel_rfl,by kernel_rfl⟩ (.told fullF_ca rfl fullF_prim .nil)) .nil rfl
theorem cameD_prim:PrimOK Tryz.prog 260 cameD_P:=by
 refine prim_by cameD_E 6 cameD_ca (fi:={fn:=Tryz.f260,hooks:=[1,15],draws:=[(0,[0,1,3,7,0,31,0,64,192,448,960,0,4032,8128,0,16447,65535]),(1,[0,1,3,7,0,16,48,112,255,511]),(4,[0,0,0,4,12,28,0,64,192,508,1020,2045,4093,8189,16383,32767]),(11,[0,1,3,7,0,16,48,112,240,496,0,1024,4080,8176,16383,32767]),(12,[0,1,3,7,15,31,63,127,255,511,1023,2047,4095,1023,16383,1023,33791,99327,262143,524287,1048575]),(14,[0,1,3,7,0,0,32,96,224,0,992,2016,4064,8160,16352,16352,32767,98303])]}) ⟨Tryz.func260,by kernel_rfl,by kernel_rfl⟩ ?_
 rintro args rows K ⟨m,i,els,b,rfl,h,⟨hq,hp0,hp1,hsz,hsk⟩,rfl,hK,hN⟩
 have hei:(els.set i (procF (pr m i)))[i]?=some (procF (pr m i)):=List.getElem?_set_self (by rw [h.nl];exact h.lt)
 have hel:(els.set i (procF (pr m i))).length=m.g.length:=by rw [List.length_set,h.nl]
 have hpe:=h.pe
 have hgf:=gf_of h.g
 have hnd:ndG m.g i=m.g[i]'(h.lt):=ndG_at h.lt
 obtain ⟨k,hk⟩:∃ k:Nat,(pr m i).pos=k:=⟨(pr m i).pos.toNat,by omega⟩
 have hkl:k<(pr m i).got.length:=by rw [h.got];omega
 have hkt:(pr m i).pos.toNat=k:=by omega
 unfold focR
 conv=>whnf
 refine join_live [0,1,2] (σ:=Unit) (fun _=>[(6,.ptr 2 i 0),(7,.ptr 5 0 0)]) (fun _=>[.box [.sl nodeV m.g,.sl fileV m.f,.own 1,.own 2,.sl byteV m.sunk],.row 4 (m.pipes.map pipeV),.rowq 5 (els.set i (procF (pr m i))),.row 1 ((pr m i).got.map blV),.row 1 ((pr m i).out.map blV),.box (nodeV (ndG m.g i)).cells]) (fun _=>True) ?_
 conv=>whnf
 refine ⟨?_,fun _ _=>?_⟩
 ·conv=>whnf
  repeat' first|exact True.intro|refine ⟨_,⟨rfl,rfl⟩,?_⟩|refine And.intro (a:=chkPast _ _ _ _ _ _ _ _) ?_ ?_|fail
  conv=>whnf
  skip
  apply Exists.intro
  apply And.intro
  ·repeat' first|refine ⟨_,rfl,?_,rfl,?_⟩|refine ⟨rfl,?_⟩|fail
   ·rw [hel];exact h.lt
   ·exact rfl
  conv=>whnf
  refine ⟨trivial,?_⟩
  conv=>whnf
  repeat' first|exact True.intro|refine ⟨_,⟨rfl,rfl⟩,?_⟩|refine ⟨_,_,⟨rfl,rfl⟩,?_⟩|refine And.intro (a:=chkPend _ _ _ _ _ _) ?_ ?_|refine And.intro (a:=chkPast _ _ _ _ _ _ _ _) ?_ ?_|refine ⟨⟨rfl,rfl⟩,?_⟩|refine ⟨_,⟨_,rfl,?_,rfl,rfl,rfl⟩,?_⟩|fail
  conv=>whnf
  skip
  ·exact h.lt
  ·conv=>whnf
   skip
   refine ⟨?_,?_⟩
   ·conv=>whnf
    refine ⟨rfl,i,rfl,by rw [hel];exact h.lt,?_⟩
    exact ⟨rfl,rfl⟩
   ·conv=>whnf
    repeat' first|exact True.intro|refine ⟨⟨rfl,rfl⟩,?_⟩|fail
    all_goals done
  conv=>whnf
  skip
  conv=>whnf
  skip
  rw [hnd]
  exact ⟨(),(by (refine wk_sel [some 0,some 1,some 2,some 3,some 4,some 5] rfl rfl ?_ ?_<;>(repeat' (first|exact wkEls_foc hpe rfl rfl|exact True.intro|exact rfl|exact Or.inl rfl|exact Or.inr rfl|refine And.intro ?_ ?_|fail)))),trivial⟩
 conv=>whnf
 repeat' first|refine ⟨_,⟨rfl,rfl⟩,?_⟩|fail
 conv=>whnf
 apply Exists.intro
 apply And.intro
 ·conv=>whnf
  refine ⟨_,hei,?_⟩
  repeat' first|refine ⟨rfl,?_⟩|fail
  exact rfl
 conv=>whnf
 refine ⟨trivial,?_⟩
 conv=>whnf
 repeat' first|refine ⟨_,⟨rfl,rfl⟩,?_⟩|fail
 conv=>whnf
 skip
 apply Exists.intro
 apply And.intro
 ·conv=>whnf
  refine ⟨_,hei,?_⟩
  repeat' first|refine ⟨rfl,?_⟩|fail
  exact rfl
 conv=>whnf
 refine ⟨trivial,?_⟩
 conv=>whnf
 skip
 apply Exists.intro
 apply And.intro
 ·refine ⟨rfl,k,hk,by rw [List.length_map];exact hkl,?_⟩
  exact ⟨rfl,rfl⟩
 conv=>whnf
 refine ⟨trivial,?_⟩
 conv=>whnf
 repeat' first|refine ⟨_,⟨rfl,rfl⟩,?_⟩|fail
 have hgk:((pr m i).got.map blV)[k]?=some (blV (gotK m i k)):=by
  rw [List.getElem?_map,List.getElem?_eq_getElem hkl]
  unfold gotK
  rw [List.getD_eq_getElem?_getD,List.getElem?_eq_getElem hkl];rfl
 have hgl:(gotK m i k).length+b.length≤400000:=by
  have:=getD_flat (pr m i).got k
  unfold gotK;omega
 refine ⟨_,hgk,?_⟩
 skip
 refine ⟨Bs,blV,[gotK m i k,b],LeL.refl _,?_⟩
 skip
 refine ⟨[gotK m i k,b],rfl,?_,?_⟩
 ·simp;omega
 skip
 refine ⟨by rw [List.length_map];exact hkl,?_⟩
 have hxl:([gotK m i k,b].flatten).length≤400000:=by simp;omega
 have hx:[gotK m i k,b].flatten=gotK m i k++b:=by simp
 have hgx:(((pr m i).got.map blV).set k (.sl byteV [gotK m i k,b].flatten))[k]?=some (blV [gotK m i k,b].flatten):=List.getElem?_set_self (by rw [List.length_map];exact hkl)
 have hgxl:k<(((pr m i).got.map blV).set k (.sl byteV [gotK m i k,b].flatten)).length:=by rw [List.length_set,List.length_map];exact hkl
 have hb2:[gotK m i k,b].flatten.length=(gotK m i k).length+b.length:=by simp
 generalize [gotK m i k,b].flatten=x at hx hgx hxl hgxl hb2
 rw [hkt] at hN
 have hmp:i<m.p.length:=by rw [h.np];exact h.lt
 have hset:((pr m i).got.map blV).set k (.sl byteV x)=(setGot (pr m i) k x).got.map blV:=by
  show _=((pr m i).got.set k x).map blV
  rw [List.map_set];rfl
 have hnone:∀ (h5:¬ (ndG m.g i).kind=5) (h2:¬ (isBeh (ndG m.g i)=true∨isEach (ndG m.g i)=true)) (h3:¬ (isHead (ndG m.g i)=true∧(ndG m.g i).c.n≤(feeds x:Int))) (ex:Rows),K (.tup []) ([.box [.sl nodeV m.g,.sl fileV m.f,.own 1,.own 2,.sl byteV m.sunk],.row 4 (m.pipes.map pipeV),.rowq 5 (els.set i (procF (pr m i))),.row 1 (((pr m i).got.map blV).set k (.sl byteV x)),.row 1 ((pr m i).out.map blV)]++ex):=fun h5 h2 h3 ex=>by
  have:=hK ex
  rw [came_none hkt h5 h2 (by rw [←hx];exact h3),focR_set hmp,←hx] at this
  rw [hset]
  exact this
 have heach:∀ (l:List Bs) (hl:l=(if (ndG m.g i).kind=3 then linesC (ndG m.g i).c (linesOf (comp x)) else linesOf (comp x))) (h5:¬ (ndG m.g i).kind=5) (h2:isBeh (ndG m.g i)=true∨isEach (ndG m.g i)=true) (ex:Rows),K (.tup []) ([.box [.sl nodeV m.g,.sl fileV m.f,.own 1,.own 2,.sl byteV m.sunk],.row 4 (m.pipes.map pipeV),.rowq 5 (els.set i (procF (pr m i))),.row 1 ((((pr m i).got.map blV).set k (.sl byteV x)).set k (.sl byteV (x.drop (comp x).length))),.row 1 (((pr m i).out.map blV).set 0 (.sl byteV [outK m i 0,put l].flatten))]++ex):=fun l hl h5 h2 ex=>by
  have:=hK ex
  rw [came_each hkt h5 h2,focR_set hmp,←hx,←hl] at this
  have e1:(((pr m i).got.map blV).set k (.sl byteV x)).set k (.sl byteV (x.drop (comp x).length))=((pr m i).got.set k (rest x)).map blV:=by
   rw [List.set_set,List.map_set,←(comp_len x).2.2];rfl
  have e2:((pr m i).out.map blV).set 0 (.sl byteV [outK m i 0,put l].flatten)=((pr m i).out.set 0 (outK m i 0++put l)).map blV:=by
   rw [List.map_set];simp [blV]
  rw [e1,e2]
  exact this
 have hcl:=comp_len x
 have hll:(linesOf (x.take (comp x).length)).length≤900000:=by
  have:=linesOf_len (x.take (comp x).length)
  rw [List.length_take] at this
  omega
 have hls:∀ s∈linesOf (x.take (comp x).length),s.length≤900000:=fun s hs=>by
  have h1:=put_lines (x.take (comp x).length)
  have h2:=el_put hs
  rw [List.length_take] at h1
  omega
 repeat' first|exact True.intro|(refine fun (b:Bool) hb=>?_;cases b<;>first|exact absurd hb (by decide)|exact nfl hb|exact nfr hb|skip)|refine ⟨_,⟨rfl,rfl⟩,?_⟩|refine And.intro (a:=chkPast _ _ _ _ _ _ _ _) ?_ ?_|fail
 rotate_right
 ·
  have h5:(ndG m.g i).kind=5:=of_decide_eq_true (by assumption)
  conv=>whnf
  skip
  conv=>whnf
  skip
  apply Exists.intro
  apply And.intro
  ·refine ⟨_,hgx,?_⟩
   repeat' first|refine ⟨rfl,?_⟩|fail
   exact rfl
  conv=>whnf
  refine ⟨trivial,?_⟩
  conv=>whnf
  skip
  refine ⟨_,⟨Bs,blV,[m.sunk,x],LeL.refl _,rfl,rfl⟩,?_⟩
  conv=>whnf
  skip
  apply Exists.intro
  apply And.intro
  ·refine ⟨[m.sunk,x],rfl,by simp;omega,?_⟩
   exact ⟨rfl,rfl⟩
  conv=>whnf
  repeat' first|exact True.intro|refine ⟨_,⟨rfl,rfl⟩,?_⟩|refine ⟨_,_,⟨rfl,rfl⟩,?_⟩|refine And.intro (a:=chkPend _ _ _ _ _ _) ?_ ?_|fail
  conv=>whnf
  skip
  apply Exists.intro
  apply Exists.intro
  apply And.intro
  ·conv=>whnf
   refine ⟨hgxl,?_⟩
   exact ⟨rfl,rfl⟩
  conv=>whnf
  repeat' first|exact True.intro|refine And.intro (a:=chkPend _ _ _ _ _ _) ?_ ?_|fail
  conv=>whnf
  skip
  have hfin:=hN [.box (nodeV (ndG m.g i)).cells,.fz blV [gotK m i k,b]] h5
  rw [←hx] at hfin
  rw [List.set_set]
  have e:[m.sunk,x].flatten=m.sunk++x:=by simp
  rw [e]
  exact hfin
 ·
  have h5:¬ (ndG m.g i).kind=5:=of_decide_eq_false (by assumption)
  have h4:¬ (ndG m.g i).kind=4:=of_decide_eq_false (by assumption)
  have h3:¬ (ndG m.g i).kind=3:=of_decide_eq_false (by assumption)
  conv=>whnf
  skip
  conv=>whnf
  skip
  exact hnone h5 (by simp [isBeh,isEach,h4,h3]) (by simp [isHead,h3]) [.box (nodeV (ndG m.g i)).cells,.fz blV [gotK m i k,b]]
 ·exact absurd (of_decide_eq_true (by assumption:decide ((ndG m.g i).kind=3)=true)) (of_decide_eq_false (by assumption))
 ·exact absurd (of_decide_eq_true (by assumption:decide ((ndG m.g i).kind=3)=true)) (of_decide_eq_false (by assumption))
 ·
  have h5:¬ (ndG m.g i).kind=5:=of_decide_eq_false (by assumption)
  have h4:¬ (ndG m.g i).kind=4:=of_decide_eq_false (by assumption)
  have h3:(ndG m.g i).kind=3:=of_decide_eq_true (by assumption)
  conv=>whnf
  skip
  refine ⟨(ndG m.g i).c.kind,(ndG m.g i).c.word,(ndG m.g i).c.n,rfl,?_⟩
  repeat' first|exact True.intro|(refine fun (b:Bool) hb=>?_;cases b<;>first|exact absurd hb (by decide)|exact nfl hb|exact nfr hb|skip)|refine ⟨_,⟨rfl,rfl⟩,?_⟩|refine And.intro (a:=chkPast _ _ _ _ _ _ _ _) ?_ ?_|fail
  rotate_right
  ·have he:each (ndG m.g i).c=true:=by assumption
   have hcc:checkCmd (ndG m.g i).c=0:=by
    rcases checkN_shape (hgf.node i h.lt) with ⟨a,_⟩|⟨a,_⟩|⟨a,_,e⟩|⟨a,_⟩|⟨a,_⟩<;>first|exact e|omega
   have hol:0<(pr m i).out.length:=by
    have:=h.out
    unfold nO outsN at this
    rw [if_neg (by omega),if_neg (by omega)] at this
    omega
   have hgo:((pr m i).out.map blV)[0]?=some (blV (outK m i 0)):=by
    rw [List.getElem?_map,List.getElem?_eq_getElem hol]
    unfold outK
    rw [List.getD_eq_getElem?_getD,List.getElem?_eq_getElem hol];rfl
   have hob:(outK m i 0).length≤400000:=by
    unfold outK
    rw [List.getD_eq_getElem?_getD,List.getElem?_eq_getElem hol]
    exact h.big _ (List.mem_append_right _ (List.getElem_mem hol))
   have hpl:(put (linesC (ndG m.g i).c (linesOf (x.take (comp x).length)))).length≤500000:=by
    have h1:=put_lines (x.take (comp x).length)
    have h2:=linesC_put9 hcc (linesOf (x.take (comp x).length)) hll
    rw [List.length_take] at h1
    omega
   conv=>whnf
   skip
   refine ⟨_,hgx,?_⟩
   skip
   refine ⟨x,rfl,?_⟩
   repeat' first|refine And.intro (a:=I64 _) ?_ ?_|fail
   ·have:=(comp_len x).1
    unfold I64;omega
   refine ⟨_,hgx,?_⟩
   repeat' first|refine ⟨(fun _=>rfl),?_⟩|fail
   refine ⟨(comp x).length,by omega,(comp_len x).1,?_⟩
   skip
   refine ⟨x.take (comp x).length,rfl,by rw [List.length_take];omega,?_⟩
   skip
   refine ⟨_,hgx,?_⟩
   repeat' first|refine ⟨(fun _=>rfl),?_⟩|fail
   refine ⟨(comp x).length,by omega,(comp_len x).1,?_⟩
   skip
   refine ⟨x.drop (comp x).length,rfl,by rw [List.length_drop];omega,?_⟩
   skip
   refine ⟨hgxl,?_⟩
   repeat' first|(refine fun (b:Bool) hb=>?_;cases b<;>first|exact absurd hb (by decide)|exact nfl hb|exact nfr hb|skip)|refine ⟨_,⟨rfl,rfl⟩,?_⟩|fail
   ·exact absurd h3 (of_decide_eq_false (by assumption))
   refine ⟨(ndG m.g i).c,linesOf (x.take (comp x).length),rfl,⟨hcc,hll,hls⟩,?_⟩
   repeat' first|refine ⟨_,⟨rfl,rfl⟩,?_⟩|fail
   conv=>whnf
   skip
   apply Exists.intro
   apply And.intro
   ·conv=>whnf
    refine ⟨_,hei,?_⟩
    repeat' first|refine ⟨rfl,?_⟩|fail
    exact rfl
   conv=>whnf
   refine ⟨trivial,?_⟩
   conv=>whnf
   repeat' first|refine ⟨_,⟨rfl,rfl⟩,?_⟩|fail
   conv=>whnf
   skip
   apply Exists.intro
   apply And.intro
   ·conv=>whnf
    refine ⟨_,hei,?_⟩
    repeat' first|refine ⟨rfl,?_⟩|fail
    exact rfl
   conv=>whnf
   refine ⟨trivial,?_⟩
   conv=>whnf
   skip
   apply Exists.intro
   apply And.intro
   ·refine ⟨rfl,0,rfl,by rw [List.length_map];exact hol,?_⟩
    exact ⟨rfl,rfl⟩
   conv=>whnf
   refine ⟨trivial,?_⟩
   conv=>whnf
   skip
   apply Exists.intro
   apply And.intro
   ·refine ⟨_,hgo,?_⟩
    repeat' first|refine ⟨rfl,?_⟩|fail
    exact rfl
   conv=>whnf
   refine ⟨trivial,?_⟩
   conv=>whnf
   repeat' first|refine ⟨_,⟨rfl,rfl⟩,?_⟩|fail
   apply Exists.intro
   apply And.intro
   ·refine ⟨linesC (ndG m.g i).c (linesOf (x.take (comp x).length)),rfl,by omega,?_⟩
    exact ⟨rfl,rfl⟩
   conv=>whnf
   skip
   refine ⟨_,⟨Bs,blV,[outK m i 0,put (linesC (ndG m.g i).c (linesOf (x.take (comp x).length)))],LeL.refl _,rfl,rfl⟩,?_⟩
   conv=>whnf
   skip
   apply Exists.intro
   apply And.intro
   ·refine ⟨[outK m i 0,put (linesC (ndG m.g i).c (linesOf (x.take (comp x).length)))],rfl,by simp;omega,?_⟩
    exact ⟨rfl,rfl⟩
   conv=>whnf
   skip
   conv=>whnf
   skip
   apply Exists.intro
   apply And.intro
   ·refine ⟨rfl,0,rfl,by rw [List.length_map];exact hol,?_⟩
    exact ⟨rfl,rfl⟩
   conv=>whnf
   refine ⟨trivial,?_⟩
   conv=>whnf
   apply Exists.intro
   apply Exists.intro
   apply And.intro
   ·conv=>whnf
    refine ⟨by rw [List.length_map];exact hol,?_⟩
    exact ⟨rfl,rfl⟩
   conv=>whnf
   repeat' first|exact True.intro|refine And.intro (a:=chkPend _ _ _ _ _ _) ?_ ?_|fail
   conv=>whnf
   skip
   exact heach (linesC (ndG m.g i).c (linesOf (x.take (comp x).length))) (by rw [if_pos h3,(comp_len x).2.1]) h5 (by simp [isEach,h3,he]) [.box (nodeV (ndG m.g i)).cells,.fz blV [gotK m i k,b]]
  ·exact absurd h3 (of_decide_eq_false (by assumption))
  all_goals
   have he:each (ndG m.g i).c=false:=by assumption
   have hbe:¬ (isBeh (ndG m.g i)=true∨isEach (ndG m.g i)=true):=by simp [isBeh,isEach,h4,he]
  ·have h9:¬ (ndG m.g i).c.kind=9:=of_decide_eq_false (by assumption)
   conv=>whnf
   skip
   conv=>whnf
   skip
   exact hnone h5 hbe (by simp [isHead,h9]) [.box (nodeV (ndG m.g i)).cells,.fz blV [gotK m i k,b]]
  have h9:(ndG m.g i).c.kind=9:=of_decide_eq_true (by assumption)
  conv=>whnf
  skip
  conv=>whnf
  skip
  apply Exists.intro
  apply And.intro
  ·refine ⟨_,hgx,?_⟩
   repeat' first|refine ⟨rfl,?_⟩|fail
   exact rfl
  conv=>whnf
  refine ⟨trivial,?_⟩
  conv=>whnf
  skip
  refine ⟨_,⟨UInt8,byteV,[10],LeL.refl _,rfl,rfl⟩,?_⟩
  conv=>whnf
  skip
  apply Exists.intro
  apply And.intro
  ·refine ⟨x,rfl,?_⟩
   exact ⟨rfl,rfl⟩
  conv=>whnf
  repeat' first|exact True.intro|(refine fun (b:Bool) hb=>?_;cases b<;>first|exact absurd hb (by decide)|exact nfl hb|exact nfr hb|skip)|refine ⟨_,⟨rfl,rfl⟩,?_⟩|refine And.intro (a:=chkPast _ _ _ _ _ _ _ _) ?_ ?_|fail
  conv=>whnf
  skip
  ·have hc:=of_decide_eq_false (by assumption:decide ((ndG m.g i).c.n≤((List.count 10 x:Nat):Int))=false)
   conv=>whnf
   skip
   conv=>whnf
   skip
   exact hnone h5 hbe (fun h=>hc h.2) [.box (nodeV (ndG m.g i)).cells,.fz blV [gotK m i k,b]]
  have hc:=of_decide_eq_true (by assumption:decide ((ndG m.g i).c.n≤((List.count 10 x:Nat):Int))=true)
  have hin:insB m.g i+k<(allIns m.g).length:=by
   have h1:=insB_succ h.lt
   have h2:=insB_mono (N:=m.g) (i:=i+1) (j:=m.g.length) h.lt (Nat.le_refl _)
   rw [insB_end] at h2
   omega
  have hiq:insB m.g i<m.pipes.length:=by rw [h.nq];omega
  have hgq:(m.pipes.map pipeV)[insB m.g i]?=some (pipeV (qu m (insB m.g i))):=by
   rw [List.getElem?_map,List.getElem?_eq_getElem hiq]
   unfold qu
   rw [List.getD_eq_getElem?_getD,List.getElem?_eq_getElem hiq]
   rfl
  have hqc:checkPipe (qu m (insB m.g i))=0:=by
   unfold qu
   rw [List.getD_eq_getElem?_getD,List.getElem?_eq_getElem hiq]
   exact hq _ (List.getElem_mem hiq)
  have hsh:(pipeShut (qu m (insB m.g i))).1=shutP (qu m (insB m.g i)):=by
   unfold pipeShut
   rw [check_link,if_neg (by rw [hqc];decide)]
   rfl
  conv=>whnf
  skip
  refine ⟨m.g,i,rfl,⟨Nat.le_of_lt h.lt,allIns_small h.g⟩,?_⟩
  conv=>whnf
  refine join_live [0,1] (σ:=Unit) (fun _=>[]) (fun _=>[.box [.sl nodeV m.g,.sl fileV m.f,.own 1,.own 2,.sl byteV m.sunk],.row 4 ((m.pipes.set (insB m.g i) (shutP (qu m (insB m.g i)))).map pipeV),.rowq 5 (els.set i (procF (setGot (pr m i) k x))),.row 1 ((setGot (pr m i) k x).got.map blV),.row 1 ((setGot (pr m i) k x).out.map blV)]) (fun _=>True) ?_
  conv=>whnf
  refine ⟨?_,fun _ _=>?_⟩
  ·conv=>whnf
   repeat' first|exact True.intro|refine ⟨_,⟨rfl,rfl⟩,?_⟩|refine And.intro (a:=chkPast _ _ _ _ _ _ _ _) ?_ ?_|fail
   conv=>whnf
   skip
   apply Exists.intro
   apply And.intro
   ·refine ⟨rfl,insB m.g i,rfl,by rw [List.length_map];exact hiq,?_⟩
    exact ⟨rfl,rfl⟩
   conv=>whnf
   refine ⟨trivial,?_⟩
   conv=>whnf
   skip
   apply Exists.intro
   apply And.intro
   ·refine ⟨_,hgq,?_⟩
    repeat' first|refine ⟨rfl,?_⟩|fail
    exact rfl
   conv=>whnf
   refine ⟨trivial,?_⟩
   conv=>whnf
   skip
   apply Exists.intro
   apply And.intro
   ·refine ⟨qu m (insB m.g i),rfl,?_⟩
    exact ⟨rfl,rfl⟩
   conv=>whnf
   repeat' first|refine ⟨_,⟨rfl,rfl⟩,?_⟩|fail
   conv=>whnf
   skip
   apply Exists.intro
   apply And.intro
   ·refine ⟨rfl,insB m.g i,rfl,by rw [List.length_map];exact hiq,?_⟩
    exact ⟨rfl,rfl⟩
   conv=>whnf
   refine ⟨trivial,?_⟩
   conv=>whnf
   apply Exists.intro
   apply Exists.intro
   apply And.intro
   ·conv=>whnf
    refine ⟨by rw [List.length_map];exact hiq,?_⟩
    exact ⟨rfl,rfl⟩
   conv=>whnf
   repeat' first|exact True.intro|refine And.intro (a:=chkPend _ _ _ _ _ _) ?_ ?_|fail
   conv=>whnf
   skip
   rw [←hset,List.map_set,←hsh]
   exact ⟨(),(by (refine wk_sel [some 0,some 1,some 2,some 3,some 4] rfl rfl ?_ ?_<;>(repeat' (first|exact wkEls_foc hpe rfl rfl|exact True.intro|exact rfl|exact Or.inl rfl|exact Or.inr rfl|refine And.intro ?_ ?_|fail)))),trivial⟩
  have hml:(m.pipes.set (insB m.g i) (shutP (qu m (insB m.g i)))).length=m.pipes.length:=List.length_set
  have hmr:∀ p∈m.pipes.set (insB m.g i) (shutP (qu m (insB m.g i))),p.b.length≤400000:=fun p hp=>by
   rcases List.mem_or_eq_of_mem_set hp with hp|rfl
   ·exact h.room p hp
   ·exact Nat.zero_le _
  have hF:=foc_setGot (k:=k) h hxl hml hmr
  have hpr:pr ⟨m.g,m.f,m.pipes.set (insB m.g i) (shutP (qu m (insB m.g i))),m.p.set i (setGot (pr m i) k x),m.sunk⟩ i=setGot (pr m i) k x:=by
   show (m.p.set i _).getD i zProc=_
   rw [getD_set,if_pos ⟨rfl,hmp⟩]
  have hfl:=set_flat_len (pr m i).got k x hkl
  have hgd:(pr m i).got.getD k []=gotK m i k:=rfl
  rw [hgd] at hfl
  conv=>whnf
  refine ⟨⟨m.g,m.f,m.pipes.set (insB m.g i) (shutP (qu m (insB m.g i))),m.p.set i (setGot (pr m i) k x),m.sunk⟩,i,els,rfl,hF,?_,?_,fun ex=>?_⟩
  ·rw [hpr]
   show ((pr m i).got.set k x).flatten.length≤500000
   omega
  ·exact (focR_set hmp).symm
  ·conv=>whnf
   skip
   have hfin:=hK ex
   rw [came_head hkt h5 hbe ⟨by simp [isHead,h3,h9],by rw [←hx];exact hc⟩,←hx] at hfin
   exact hfin
 ·
  have h5:¬ (ndG m.g i).kind=5:=of_decide_eq_false (by assumption)
  have h4:(ndG m.g i).kind=4:=of_decide_eq_true (by assumption)
  have h1:¬ (ndG m.g i).how=1:=of_decide_eq_false (by assumption)
  have h3:¬ (ndG m.g i).kind=3:=of_decide_eq_false (by assumption)
  conv=>whnf
  skip
  conv=>whnf
  skip
  exact hnone h5 (by simp [isBeh,isEach,h4,h1]) (by simp [isHead,h3]) [.box (nodeV (ndG m.g i)).cells,.fz blV [gotK m i k,b]]
 ·exact absurd (of_decide_eq_true (by assumption:decide ((ndG m.g i).kind=3)=true)) (of_decide_eq_false (by assumption))
 ·exact absurd (of_decide_eq_true (by assumption:decide ((ndG m.g i).kind=3)=true)) (of_decide_eq_false (by assumption))
 ·have h4:=of_decide_eq_true (by assumption:decide ((ndG m.g i).kind=4)=true)
  have h3:=of_decide_eq_true (by assumption:decide ((ndG m.g i).kind=3)=true)
  omega
 ·
  have h5:¬ (ndG m.g i).kind=5:=of_decide_eq_false (by assumption)
  have h4:(ndG m.g i).kind=4:=of_decide_eq_true (by assumption)
  have h1:(ndG m.g i).how=1:=of_decide_eq_true (by assumption)
  have hol:0<(pr m i).out.length:=by
   have:=h.out
   unfold nO outsN at this
   rw [if_neg (by omega),if_neg (by omega)] at this
   omega
  have hgo:((pr m i).out.map blV)[0]?=some (blV (outK m i 0)):=by
   rw [List.getElem?_map,List.getElem?_eq_getElem hol]
   unfold outK
   rw [List.getD_eq_getElem?_getD,List.getElem?_eq_getElem hol];rfl
  have hob:(outK m i 0).length≤400000:=by
   unfold outK
   rw [List.getD_eq_getElem?_getD,List.getElem?_eq_getElem hol]
   exact h.big _ (List.mem_append_right _ (List.getElem_mem hol))
  have hpl:(put (linesOf (x.take (comp x).length))).length≤500000:=by
   have h1:=put_lines (x.take (comp x).length)
   rw [List.length_take] at h1
   omega
  conv=>whnf
  skip
  refine ⟨_,hgx,?_⟩
  skip
  refine ⟨x,rfl,?_⟩
  repeat' first|refine And.intro (a:=I64 _) ?_ ?_|fail
  ·have:=(comp_len x).1
   unfold I64;omega
  refine ⟨_,hgx,?_⟩
  repeat' first|refine ⟨(fun _=>rfl),?_⟩|fail
  refine ⟨(comp x).length,by omega,(comp_len x).1,?_⟩
  skip
  refine ⟨x.take (comp x).length,rfl,by rw [List.length_take];omega,?_⟩
  skip
  refine ⟨_,hgx,?_⟩
  repeat' first|refine ⟨(fun _=>rfl),?_⟩|fail
  refine ⟨(comp x).length,by omega,(comp_len x).1,?_⟩
  skip
  refine ⟨x.drop (comp x).length,rfl,by rw [List.length_drop];omega,?_⟩
  skip
  refine ⟨hgxl,?_⟩
  repeat' first|(refine fun (b:Bool) hb=>?_;cases b<;>first|exact absurd hb (by decide)|exact nfl hb|exact nfr hb|skip)|refine ⟨_,⟨rfl,rfl⟩,?_⟩|fail
  rotate_right
  ·exact absurd (of_decide_eq_true (by assumption:decide ((ndG m.g i).kind=3)=true)) (by omega)
  conv=>whnf
  skip
  apply Exists.intro
  apply And.intro
  ·conv=>whnf
   refine ⟨_,hei,?_⟩
   repeat' first|refine ⟨rfl,?_⟩|fail
   exact rfl
  conv=>whnf
  refine ⟨trivial,?_⟩
  conv=>whnf
  repeat' first|refine ⟨_,⟨rfl,rfl⟩,?_⟩|fail
  conv=>whnf
  skip
  apply Exists.intro
  apply And.intro
  ·conv=>whnf
   refine ⟨_,hei,?_⟩
   repeat' first|refine ⟨rfl,?_⟩|fail
   exact rfl
  conv=>whnf
  refine ⟨trivial,?_⟩
  conv=>whnf
  skip
  apply Exists.intro
  apply And.intro
  ·refine ⟨rfl,0,rfl,by rw [List.length_map];exact hol,?_⟩
   exact ⟨rfl,rfl⟩
  conv=>whnf
  refine ⟨trivial,?_⟩
  conv=>whnf
  skip
  apply Exists.intro
  apply And.intro
  ·refine ⟨_,hgo,?_⟩
   repeat' first|refine ⟨rfl,?_⟩|fail
   exact rfl
  conv=>whnf
  refine ⟨trivial,?_⟩
  conv=>whnf
  repeat' first|refine ⟨_,⟨rfl,rfl⟩,?_⟩|fail
  apply Exists.intro
  apply And.intro
  ·refine ⟨linesOf (x.take (comp x).length),rfl,by omega,?_⟩
   exact ⟨rfl,rfl⟩
  conv=>whnf
  skip
  refine ⟨_,⟨Bs,blV,[outK m i 0,put (linesOf (x.take (comp x).length))],LeL.refl _,rfl,rfl⟩,?_⟩
  conv=>whnf
  skip
  apply Exists.intro
  apply And.intro
  ·refine ⟨[outK m i 0,put (linesOf (x.take (comp x).length))],rfl,by simp;omega,?_⟩
   exact ⟨rfl,rfl⟩
  conv=>whnf
  skip
  conv=>whnf
  skip
  apply Exists.intro
  apply And.intro
  ·refine ⟨rfl,0,rfl,by rw [List.length_map];exact hol,?_⟩
   exact ⟨rfl,rfl⟩
  conv=>whnf
  refine ⟨trivial,?_⟩
  conv=>whnf
  apply Exists.intro
  apply Exists.intro
  apply And.intro
  ·conv=>whnf
   refine ⟨by rw [List.length_map];exact hol,?_⟩
   exact ⟨rfl,rfl⟩
  conv=>whnf
  repeat' first|exact True.intro|refine And.intro (a:=chkPend _ _ _ _ _ _) ?_ ?_|fail
  conv=>whnf
  skip
  exact heach (linesOf (x.take (comp x).length)) (by rw [if_neg (by omega),(comp_len x).2.1]) h5 (by simp [isBeh,h4,h1]) [.box (nodeV (ndG m.g i)).cells,.fz blV [gotK m i k,b]]
end Gv
namespace Gv
variable [Glob] [Laid] [Nums] [Errs]
theorem cameF_ca:callable Tryz.prog 260=true:=by kernel_rfl
def cameF_P:PSpec:=fun args rows K=>∃ (m:MachS) (i:Nat) (els:List V) (b:Bs),args=[.ptr 0 0 0,.int .i64 i,.sl byteV b]∧FocOK m i els∧((∀ q∈m.pipes,checkPipe q=0)∧0≤(pr m i).pos∧(pr m i).pos<(nI m.g i:Int)∧(pr m i).got.flatten.length+b.length≤400000∧m.sunk.length≤500000)∧rows=focR m i els∧∀ ex,K (.tup []) (focR (cameM m i b) i els++ex)
theorem cameF_prim:PrimOK Tryz.prog 260 cameF_P:=by
 intro w0 m0 args rows K R m' q w us C hv hT
 obtain ⟨m,i,els,b,rfl,h,hz,rfl,hK⟩:=hT
 refine prim_le cameD_prim w0 m0 _ _ K R m' q w us C hv ⟨m,i,els,b,rfl,h,hz,rfl,fun ex=>.inl (hK ex),fun ex h5=>.inr ⟨3,1,((pr m i).got.map blV).set (pr m i).pos.toNat .nil,((pr m i).got.set (pr m i).pos.toNat []).map blV,rfl,leL_nil _,?_⟩⟩
 have:=hK ex
 rw [came_sink rfl h5,focR_set (by rw [h.np];exact h.lt)] at this
 exact this
end Gv
namespace Gv
variable [Glob] [Laid] [Nums] [Errs]
theorem read8 {p:PipeS} (h:checkPipe p=0):(pipeRead p 8).1=⟨p.b.drop 8,p.room,p.closed,p.shut⟩∧(pipeRead p 8).2.1=p.b.take 8:=by
 unfold pipeRead
 rw [check_link,if_neg (by rw [h];decide),if_neg (by decide)]
 rcases Nat.lt_or_ge p.b.length 8 with h2|h2
 ·have e:(min (8:Int) (p.b.length:Int)).toNat=p.b.length:=by omega
  rw [e,List.take_length,List.drop_length,List.take_of_length_le (by omega),List.drop_eq_nil_of_le (by omega)]
  exact ⟨rfl,rfl⟩
 ·have e:(min (8:Int) (p.b.length:Int)).toNat=8:=by omega
  rw [e]
  exact ⟨rfl,rfl⟩
theorem foc_gen {m m':MachS} {i:Nat} {els:List V} (h:FocOK m i els) (hg:m'.g=m.g) (hf:m'.f=m.f) (hn:m'.p.length=m.p.length) (hq:m'.pipes.length=m.pipes.length) (hgot:(pr m' i).got=(pr m i).got) (hout:(pr m' i).out=(pr m i).out) (hr:∀ p∈m'.pipes,p.b.length≤400000):FocOK m' i els:=by
 refine ⟨by rw [hg];exact h.g,by rw [hf];exact h.f,by rw [hg,hn];exact h.np,by rw [hg,hq];exact h.nq,by rw [hg];exact h.lt,by rw [hg];exact h.nl,by rw [hg,hgot];exact h.got,by rw [hg,hout];exact h.out,hr,h.pe,fun b hb=>?_⟩
 rw [hgot,hout] at hb
 exact h.big b hb
theorem drop_ok {p:PipeS} (h:checkPipe p=0) (n:Nat):checkPipe ⟨p.b.drop n,p.room,p.closed,p.shut⟩=0:=by
 unfold checkPipe at h ⊢
 dsimp only
 have hl:(p.b.drop n).length≤p.b.length:=by rw [List.length_drop];omega
 by_cases h1:p.room<0∨1000<p.room
 ·rw [if_pos h1] at h;cases h
 ·rw [if_neg h1] at h ⊢
  by_cases h2:(0<p.room∧p.room<(p.b.length:Int))∨40000<p.b.length
  ·rw [if_pos h2] at h;cases h
  ·rw [if_neg h2] at h
   rw [if_neg (by omega)]
   by_cases h3:p.shut=true∧p.b≠[]
   ·rw [if_pos h3] at h;cases h
   ·rw [if_neg (fun h4=>h3 ⟨h4.1,fun e=>h4.2 (by rw [e];simp)⟩)]
theorem readF_ca:callable Tryz.prog 207=true:=by kernel_rfl
def readF_P:PSpec:=fun args rows K=>∃ (m:MachS) (i:Nat) (els:List V),args=[.ptr 0 0 0,.int .i64 i]∧FocOK m i els∧((∀ q∈m.pipes,checkPipe q=0)∧0≤(pr m i).pos∧(nI m.g i=0∨(pr m i).pos<(nI m.g i:Int))∧(pr m i).got.flatten.length+8≤400000∧m.sunk.length≤500000)∧rows=focR m i els∧(∀ m' ex,readM m i=some m'→K (.lit true) (focR m' i els++ex))∧(∀ ex,readM m i=none→K (.lit false) (focR m i els++ex))
noncomputable def readF_lib:List (Nat × Spec):=[(195,inputsX_S),(259,read_S)]
noncomputable def readF_fns:List (Nat × FnI):=[(258,{ fn:=Tryz.f258,spec:=some fullF_P }),(260,{ fn:=Tryz.f260,spec:=some cameF_P })]
noncomputable def readF_prims:List (Nat × PSpec):=[]
theorem readF_E:EnvOK ⟨Tryz.prog,tys,readF_lib,readF_fns,readF_prims,[]⟩:=env_ok mixed0 tys0 (.cons inputsX_ca inputsX_ok (.cons read_ca read_ok .nil)) (.told fullF_ca rfl fullF_prim (.told cameF_ca rfl cameF_prim .nil)) .nil rfl
theorem readF_prim:PrimOK Tryz.prog 207 readF_P:=by
 refine prim_by readF_E 6 readF_ca (fi:={fn:=Tryz.f207,hooks:=[2,3,8,12],draws:=[(1,[0,1,3,7,0,31,0,64,192,448,960,0,4032,8128,0,16447,65535]),(5,[0,1,3,7,0,31,0,64,192,448,1023,2047]),(11,[0,1,3,7,0,0,63,127]),(7,[0,1,3,7,0,16,48,127])]}) ⟨Tryz.func207,by kernel_rfl,by kernel_rfl⟩ ?_
 rintro args rows K ⟨m,i,els,rfl,h,⟨hq,hp0,hp1,hsz,hsk⟩,rfl,hT,hF⟩
 have hei:(els.set i (procF (pr m i)))[i]?=some (procF (pr m i)):=List.getElem?_set_self (by rw [h.nl];exact h.lt)
 have hel:(els.set i (procF (pr m i))).length=m.g.length:=by rw [List.length_set,h.nl]
 have hpe:=h.pe
 have hgf:=gf_of h.g
 have hnd:ndG m.g i=m.g[i]'(h.lt):=ndG_at h.lt
 have hmp:i<m.p.length:=by rw [h.np];exact h.lt
 have hni:nI m.g i=(ndG m.g i).ins.length:=rfl
 unfold focR
 conv=>whnf
 refine join_live [0,1] (σ:=Unit) (fun _=>[(5,.ptr 2 i 0),(6,.ptr 5 0 0)]) (fun _=>[.box [.sl nodeV m.g,.sl fileV m.f,.own 1,.own 2,.sl byteV m.sunk],.row 4 (m.pipes.map pipeV),.rowq 5 (els.set i (procF (pr m i))),.row 1 ((pr m i).got.map blV),.row 1 ((pr m i).out.map blV),.box (nodeV (ndG m.g i)).cells]) (fun _=>True) ?_
 conv=>whnf
 refine ⟨?_,fun _ _=>?_⟩
 ·conv=>whnf
  repeat' first|exact True.intro|refine ⟨_,⟨rfl,rfl⟩,?_⟩|refine And.intro (a:=chkPast _ _ _ _ _ _ _ _) ?_ ?_|fail
  conv=>whnf
  skip
  apply Exists.intro
  apply And.intro
  ·repeat' first|refine ⟨_,rfl,?_,rfl,?_⟩|refine ⟨rfl,?_⟩|fail
   ·rw [hel];exact h.lt
   ·exact rfl
  conv=>whnf
  refine ⟨trivial,?_⟩
  conv=>whnf
  repeat' first|exact True.intro|refine ⟨_,⟨rfl,rfl⟩,?_⟩|refine ⟨_,_,⟨rfl,rfl⟩,?_⟩|refine And.intro (a:=chkPend _ _ _ _ _ _) ?_ ?_|refine And.intro (a:=chkPast _ _ _ _ _ _ _ _) ?_ ?_|refine ⟨⟨rfl,rfl⟩,?_⟩|refine ⟨_,⟨_,rfl,?_,rfl,rfl,rfl⟩,?_⟩|fail
  conv=>whnf
  skip
  ·exact h.lt
  ·conv=>whnf
   skip
   refine ⟨?_,?_⟩
   ·conv=>whnf
    refine ⟨rfl,i,rfl,by rw [hel];exact h.lt,?_⟩
    exact ⟨rfl,rfl⟩
   ·conv=>whnf
    repeat' first|exact True.intro|refine ⟨⟨rfl,rfl⟩,?_⟩|fail
    all_goals done
  conv=>whnf
  skip
  conv=>whnf
  skip
  rw [hnd]
  exact ⟨(),(by (refine wk_sel [some 0,some 1,some 2,some 3,some 4,some 5] rfl rfl ?_ ?_<;>(repeat' (first|exact wkEls_foc hpe rfl rfl|exact True.intro|exact rfl|exact Or.inl rfl|exact Or.inr rfl|refine And.intro ?_ ?_|fail)))),trivial⟩
 conv=>whnf
 refine join_live [0,1,5] (σ:=Bool) (fun s=>match s with|true=>[(28,.bool (decide (((ndG m.g i).ins.length:Int)=0)))]|false=>[(28,.bool (decide (((ndG m.g i).ins.length:Int)=0))),(6,.ptr 5 0 0)]) (fun s=>match s with|true=>[.box [.sl nodeV m.g,.sl fileV m.f,.own 1,.own 2,.sl byteV m.sunk],.row 4 (m.pipes.map pipeV),.rowq 5 (els.set i (procF (pr m i))),.row 1 ((pr m i).got.map blV),.row 1 ((pr m i).out.map blV)]|false=>[.box [.sl nodeV m.g,.sl fileV m.f,.own 1,.own 2,.sl byteV m.sunk],.row 4 (m.pipes.map pipeV),.rowq 5 (els.set i (procF (pr m i))),.row 1 ((pr m i).got.map blV),.row 1 ((pr m i).out.map blV),.box (nodeV (ndG m.g i)).cells]) (fun s=>s=decide (nI m.g i=0)) ?_
 conv=>whnf
 refine ⟨?_,fun s hs=>?_⟩
 ·conv=>whnf
  repeat' first|(refine fun (hl:_≤MAXL)=>?_)|fail
  by_cases h0:nI m.g i=0
  ·exact ⟨true,(by (refine wk_sel [some 0,some 1,some 2,some 3,some 4] rfl rfl ?_ ?_<;>(repeat' (first|exact wkEls_foc hpe rfl rfl|exact True.intro|exact rfl|exact Or.inl rfl|exact Or.inr rfl|refine And.intro ?_ ?_|fail)))),by simp [h0]⟩
  ·exact ⟨false,(by (refine wk_sel [some 0,some 1,some 2,some 3,some 4,some 5] rfl rfl ?_ ?_<;>(repeat' (first|exact wkEls_foc hpe rfl rfl|exact True.intro|exact rfl|exact Or.inl rfl|exact Or.inr rfl|refine And.intro ?_ ?_|fail)))),by simp [h0]⟩
 cases s
 rotate_left
 ·have h0:nI m.g i=0:=of_decide_eq_true hs.symm
  conv=>whnf
  repeat' first|exact True.intro|(refine fun (b:Bool) hb=>?_;cases b<;>first|exact absurd hb (by decide)|exact nfl hb|exact nfr hb|skip)|refine ⟨_,⟨rfl,rfl⟩,?_⟩|refine And.intro (a:=chkPast _ _ _ _ _ _ _ _) ?_ ?_|fail
  ·exact absurd (by omega) (of_decide_eq_false (by assumption:decide (((ndG m.g i).ins.length:Int)=0)=false))
  conv=>whnf
  refine ⟨m,i,els,rfl,h,by omega,rfl,fun ex=>?_⟩
  conv=>whnf
  skip
  refine hT _ ex ?_
  unfold readM
  dsimp only
  rw [if_pos h0]
 have h0:¬ nI m.g i=0:=of_decide_eq_false hs.symm
 have hp1:(pr m i).pos<(nI m.g i:Int):=hp1.resolve_left h0
 obtain ⟨k,hk⟩:∃ k:Nat,(pr m i).pos=k:=⟨(pr m i).pos.toNat,by omega⟩
 have hkt:(pr m i).pos.toNat=k:=by omega
 have hin:insB m.g i+k<(allIns m.g).length:=by
  have h1:=insB_succ h.lt
  have h2:=insB_mono (N:=m.g) (i:=i+1) (j:=m.g.length) h.lt (Nat.le_refl _)
  rw [insB_end] at h2
  omega
 have hsm:=allIns_small h.g
 have hiq:insB m.g i+k<m.pipes.length:=by rw [h.nq];exact hin
 have hgq:(m.pipes.map pipeV)[insB m.g i+k]?=some (pipeV (qu m (insB m.g i+k))):=by
  rw [List.getElem?_map,List.getElem?_eq_getElem hiq]
  unfold qu
  rw [List.getD_eq_getElem?_getD,List.getElem?_eq_getElem hiq]
  rfl
 have hqc:checkPipe (qu m (insB m.g i+k))=0:=by
  unfold qu
  rw [List.getD_eq_getElem?_getD,List.getElem?_eq_getElem hiq]
  exact hq _ (List.getElem_mem hiq)
 conv=>whnf
 repeat' first|exact True.intro|(refine fun (b:Bool) hb=>?_;cases b<;>first|exact absurd hb (by decide)|exact nfl hb|exact nfr hb|skip)|refine ⟨_,⟨rfl,rfl⟩,?_⟩|refine And.intro (a:=chkPast _ _ _ _ _ _ _ _) ?_ ?_|fail
 rotate_left
 ·exact absurd (of_decide_eq_true (by assumption:decide (((ndG m.g i).ins.length:Int)=0)=true)) (by omega)
 conv=>whnf
 skip
 apply Exists.intro
 apply And.intro
 ·refine ⟨m.g,i,rfl,⟨Nat.le_of_lt h.lt,hsm⟩,?_⟩
  exact ⟨rfl,rfl⟩
 conv=>whnf
 repeat' first|refine ⟨_,⟨rfl,rfl⟩,?_⟩|fail
 conv=>whnf
 skip
 apply Exists.intro
 apply And.intro
 ·conv=>whnf
  refine ⟨_,hei,?_⟩
  repeat' first|refine ⟨rfl,?_⟩|fail
  exact rfl
 conv=>whnf
 refine ⟨trivial,?_⟩
 conv=>whnf
 repeat' first|refine ⟨_,⟨rfl,rfl⟩,?_⟩|refine ⟨_,And.intro (a:=I64 _) ?_ ⟨rfl,rfl⟩,?_⟩|refine ⟨rfl,?_⟩|fail
 ·rw [hk];unfold I64;omega
 conv=>whnf
 skip
 refine ⟨insB m.g i+k,by rw [hk];omega,by rw [List.length_map];exact hiq,?_⟩
 skip
 refine ⟨_,hgq,?_⟩
 repeat' first|(refine fun (b:Bool) hb=>?_;cases b<;>first|exact absurd hb (by decide)|exact nfl hb|exact nfr hb|skip)|(refine fun (hl:_≤MAXL)=>?_)|refine ⟨rfl,?_⟩|fail
 ·
  have hb0:(qu m (insB m.g i+k)).b=[]:=by
   have h:=of_decide_eq_false (by assumption:decide (0<((qu m (insB m.g i+k)).b.length:Int))=false)
   exact List.length_eq_zero_iff.1 (by omega)
  refine ⟨insB m.g i+k,by rw [hk];omega,by rw [List.length_map];exact hiq,?_⟩
  skip
  refine ⟨_,hgq,?_⟩
  repeat' first|(refine fun (b:Bool) hb=>?_;cases b<;>first|exact absurd hb (by decide)|exact nfl hb|exact nfr hb|skip)|fail
  rotate_left
  ·have hcl:(qu m (insB m.g i+k)).closed=false:=by simpa using ‹(!(qu m (insB m.g i+k)).closed)=true›
   conv=>whnf
   skip
   refine hF [.box (nodeV (ndG m.g i)).cells] ?_
   unfold readM
   dsimp only
   rw [hkt,if_neg h0,if_neg (by rw [hb0];simp),if_pos hcl]
  have hcl:¬ (qu m (insB m.g i+k)).closed=false:=by
   have:=‹(!(qu m (insB m.g i+k)).closed)=false›
   simpa using this
  conv=>whnf
  refine ⟨_,hei,?_⟩
  repeat' first|refine And.intro (a:=I64 _) ?_ ?_|fail
  ·rw [hk];unfold I64;omega
  refine ⟨_,hei,?_⟩
  have hnext:(els.set i (procF (pr m i))).set i (.agg [.own 3,.int .i64 ((pr m i).pos+1),.own 4,.bool (pr m i).read,.bool (pr m i).over])=els.set i (procF (nextP (pr m i))):=by rw [List.set_set];rfl
  conv=>whnf
  refine join_live [0,1] (σ:=Unit) (fun _=>[(57,.bool (decide ((pr m i).pos+1=((ndG m.g i).ins.length:Int))))]) (fun _=>[.box [.sl nodeV m.g,.sl fileV m.f,.own 1,.own 2,.sl byteV m.sunk],.row 4 (m.pipes.map pipeV),.rowq 5 (els.set i (procF (nextP (pr m i)))),.row 1 ((pr m i).got.map blV),.row 1 ((pr m i).out.map blV)]) (fun _=>True) ?_
  conv=>whnf
  refine ⟨?_,fun _ _=>?_⟩
  ·conv=>whnf
   repeat' first|refine ⟨_,⟨rfl,rfl⟩,?_⟩|fail
   conv=>whnf
   apply Exists.intro
   apply And.intro
   ·conv=>whnf
    refine ⟨_,List.getElem?_set_self (by rw [hel];exact h.lt),?_⟩
    repeat' first|refine ⟨rfl,?_⟩|fail
    exact rfl
   conv=>whnf
   refine ⟨trivial,?_⟩
   conv=>whnf
   repeat' first|exact True.intro|refine ⟨_,⟨rfl,rfl⟩,?_⟩|refine ⟨_,(fun _=>⟨rfl,rfl⟩),?_⟩|refine And.intro (a:=chkPast _ _ _ _ _ _ _ _) ?_ ?_|fail
   conv=>whnf
   skip
   rw [hnext]
   exact ⟨(),(by (refine wk_sel [some 0,some 1,some 2,some 3,some 4] rfl rfl ?_ ?_<;>(repeat' (first|exact wkEls_foc hpe rfl rfl|exact True.intro|exact rfl|exact Or.inl rfl|exact Or.inr rfl|refine And.intro ?_ ?_|fail)))),trivial⟩
  have hpn:pr (setP m i (nextP (pr m i))) i=nextP (pr m i):=by rw [pr_setP hmp,if_pos rfl]
  have hFn:FocOK (setP m i (nextP (pr m i))) i els:=foc_gen h rfl rfl (by show (m.p.set i _).length=_;rw [List.length_set]) rfl (by rw [hpn];rfl) (by rw [hpn];rfl) h.room
  have hrow:[.box [.sl nodeV m.g,.sl fileV m.f,.own 1,.own 2,.sl byteV m.sunk],.row 4 (m.pipes.map pipeV),.rowq 5 (els.set i (procF (nextP (pr m i)))),.row 1 ((pr m i).got.map blV),.row 1 ((pr m i).out.map blV)]=focR (setP m i (nextP (pr m i))) i els:=(focR_set hmp).symm
  conv=>whnf
  repeat' first|(refine fun (b:Bool) hb=>?_;cases b<;>first|exact absurd hb (by decide)|exact nfl hb|exact nfr hb|skip)|fail
  ·have hne:¬ (pr m i).pos+1=(nI m.g i:Int):=of_decide_eq_false (by assumption:decide ((pr m i).pos+1=((ndG m.g i).ins.length:Int))=false)
   conv=>whnf
   skip
   have hfin:=hT (setP m i (nextP (pr m i))) [] (by
    unfold readM
    dsimp only
    rw [hkt,if_neg h0,if_neg (by rw [hb0];simp),if_neg hcl,if_neg hne])
   rw [←hrow] at hfin
   exact hfin
  ·have hne:(pr m i).pos+1=(nI m.g i:Int):=of_decide_eq_true (by assumption:decide ((pr m i).pos+1=((ndG m.g i).ins.length:Int))=true)
   conv=>whnf
   refine ⟨setP m i (nextP (pr m i)),i,els,rfl,hFn,?_,hrow,fun ex=>?_⟩
   ·rw [hpn]
    show (pr m i).got.flatten.length≤500000
    omega
   conv=>whnf
   skip
   refine hT _ ex ?_
   unfold readM
   dsimp only
   rw [hkt,if_neg h0,if_neg (by rw [hb0];simp),if_neg hcl,if_pos hne]
 ·
  have hbn:(qu m (insB m.g i+k)).b≠[]:=by
   have h:=of_decide_eq_true (by assumption:decide (0<((qu m (insB m.g i+k)).b.length:Int))=true)
   intro e
   rw [e] at h
   exact absurd h (by decide)
  obtain ⟨r1,r2⟩:=read8 hqc
  refine ⟨insB m.g i+k,by rw [hk];omega,by rw [List.length_map];exact hiq,?_⟩
  skip
  refine ⟨_,hgq,?_⟩
  skip
  refine ⟨qu m (insB m.g i+k),8,rfl,?_⟩
  skip
  conv=>whnf
  refine join_live [0,1,9] (σ:=Unit) (fun _=>[]) (fun _=>[.box [.sl nodeV m.g,.sl fileV m.f,.own 1,.own 2,.sl byteV m.sunk],.row 4 ((m.pipes.set (insB m.g i+k) (pipeRead (qu m (insB m.g i+k)) 8).1).map pipeV),.rowq 5 (els.set i (procF (pr m i))),.row 1 ((pr m i).got.map blV),.row 1 ((pr m i).out.map blV)]) (fun _=>True) ?_
  conv=>whnf
  refine ⟨?_,fun _ _=>?_⟩
  ·conv=>whnf
   repeat' first|exact True.intro|refine ⟨_,⟨rfl,rfl⟩,?_⟩|refine And.intro (a:=chkPast _ _ _ _ _ _ _ _) ?_ ?_|fail
   conv=>whnf
   skip
   apply Exists.intro
   apply And.intro
   ·refine ⟨rfl,insB m.g i+k,by rw [hk];omega,by rw [List.length_map];exact hiq,?_⟩
    exact ⟨rfl,rfl⟩
   conv=>whnf
   refine ⟨trivial,?_⟩
   conv=>whnf
   apply Exists.intro
   apply Exists.intro
   apply And.intro
   ·conv=>whnf
    refine ⟨by rw [List.length_map];exact hiq,?_⟩
    exact ⟨rfl,rfl⟩
   conv=>whnf
   repeat' first|exact True.intro|refine And.intro (a:=chkPend _ _ _ _ _ _) ?_ ?_|fail
   conv=>whnf
   skip
   rw [List.map_set]
   exact ⟨(),(by (refine wk_sel [some 0,some 1,some 2,some 3,some 4] rfl rfl ?_ ?_<;>(repeat' (first|exact wkEls_foc hpe rfl rfl|exact True.intro|exact rfl|exact Or.inl rfl|exact Or.inr rfl|refine And.intro ?_ ?_|fail)))),trivial⟩
  have hqx:setQ m (insB m.g i+k) ⟨(qu m (insB m.g i+k)).b.drop 8,(qu m (insB m.g i+k)).room,(qu m (insB m.g i+k)).closed,(qu m (insB m.g i+k)).shut⟩=setQ m (insB m.g i+k) (pipeRead (qu m (insB m.g i+k)) 8).1:=by rw [r1]
  have hqall:∀ p∈m.pipes.set (insB m.g i+k) (pipeRead (qu m (insB m.g i+k)) 8).1,checkPipe p=0:=fun p hp=>by
   rcases List.mem_or_eq_of_mem_set hp with hp|rfl
   ·exact hq p hp
   ·rw [r1];exact drop_ok hqc 8
  have hFq:FocOK (setQ m (insB m.g i+k) (pipeRead (qu m (insB m.g i+k)) 8).1) i els:=foc_gen h rfl rfl rfl List.length_set rfl rfl fun p hp=>by
   have:=pipe_small ((check_link p).trans (hqall p hp))
   omega
  have hb8:(pipeRead (qu m (insB m.g i+k)) 8).2.1.length≤8:=by rw [r2,List.length_take];omega
  conv=>whnf
  refine ⟨setQ m (insB m.g i+k) (pipeRead (qu m (insB m.g i+k)) 8).1,i,els,(pipeRead (qu m (insB m.g i+k)) 8).2.1,rfl,hFq,⟨hqall,hp0,hp1,?_,hsk⟩,rfl,fun ex=>?_⟩
  ·show (pr m i).got.flatten.length+_≤400000
   omega
  conv=>whnf
  skip
  refine hT _ ex ?_
  unfold readM
  dsimp only
  rw [hkt,if_neg h0,if_pos hbn,hqx,r2]
end Gv
namespace Gv
variable [Glob] [Laid]
def pipeClose (p:PipeS):PipeS × Int:=if pipeCheck p≠0 then (noPipe,pipeCheck p) else if p.closed=true then (noPipe,7) else ({p with closed:=true},0)
theorem close_ca:callable Tryz.prog 206=true:=by kernel_rfl
def close_S:Spec:=fun args K=>∃ p,args=[pipeV p]∧K (.tup [pipeV (pipeClose p).1,.int .i64 (pipeClose p).2])
noncomputable def close_lib:List (Nat × Spec):=[(196,check_S),(126,cloneB_S),(296,concatB_S)]
noncomputable def close_fns:List (Nat × FnI):=[(295,{fn:=Tryz.f295,hooks:=[],draws:=[(5,[0,0,2,6,14,0,32,96,224,480,1022,2047,4095]),(7,[0,0,2,6,14,0,0,96,254,510,1023,2047,4095])]})]
noncomputable def close_prims:List (Nat × PSpec):=[]
theorem close_E:EnvOK ⟨Tryz.prog,tys,close_lib,close_fns,close_prims,[]⟩:=env_ok mixed0 tys0 (.cons check_ca check_ok (.cons cloneB_ca cloneB_ok (.cons concatB_ca concatB_ok .nil))) (.cons (by kernel_rfl) ⟨Tryz.func295,by kernel_rfl,by kernel_rfl⟩ .nil) .nil rfl
theorem close_ok:Pure Tryz.prog 206 close_S:=by
 refine pure_by close_E 6 (fi:={fn:=Tryz.f206,hooks:=[],draws:=[]}) ⟨Tryz.func206,by kernel_rfl,by kernel_rfl⟩ ?_
 rintro _ K ⟨p,rfl,hK⟩
 replace hK:∀ r,r=.tup [pipeV (pipeClose p).1,.int .i64 (pipeClose p).2]→K r:=fun r h=>h ▸ hK
 refine ⟨p,rfl,?_⟩
 repeat' first|(refine fun (b:Bool) hb=>?_;cases b<;>first|exact absurd hb (by decide)|exact nfl hb|exact nfr hb|skip)|refine ⟨UInt8,byteV,?_⟩|fail
 ·have hc:pipeCheck p=0:=by grind
  have hs:=pipe_small hc
  refine ⟨_,rfl,by omega,?_⟩
  refine hK _ ?_
  grind [pipeClose,pipeV]
 all_goals (refine hK _ ?_;grind [pipeClose,noPipe,pipeV])
end Gv
namespace Gv
variable [Glob] [Laid] [Nums] [Errs]
def stepZ (m:MachS) (i:Nat):Prop:=(∀ q∈m.pipes,checkPipe q=0)∧0≤(pr m i).pos∧((pr m i).read=true∨nI m.g i=0∨(pr m i).pos<(nI m.g i:Int))∧(pr m i).got.flatten.length+8≤400000∧m.sunk.length≤500000
theorem close_link (p:PipeS):((pipeClose p).2=0→(pipeClose p).1=closeP p)∧((pipeClose p).2≠0→closeP p=p):=by
 unfold pipeClose closeP
 rw [check_link]
 by_cases hc:checkPipe p=0
 ·rw [if_neg (by rw [hc];decide),if_pos hc]
  cases hcl:p.closed with
  | true =>
   rw [if_pos rfl]
   refine ⟨fun h=>absurd h (by decide),fun _=>?_⟩
   obtain ⟨b,r,c,s⟩:=p
   dsimp only at hcl
   rw [hcl]
  | false =>
   rw [if_neg (by decide)]
   exact ⟨fun _=>rfl,fun h=>absurd rfl h⟩
 ·rw [if_pos hc,if_neg hc]
  exact ⟨fun h=>absurd h hc,fun _=>rfl⟩
theorem set_getD_self {α:Type} (l:List α) (r:Nat) (d : α) (h:r<l.length):l.set r (l.getD r d)=l:=by
 rw [List.getD_eq_getElem?_getD,List.getElem?_eq_getElem h]
 simp
theorem step_write {m:MachS} {i k:Nat} (ho:(pr m i).over=false) (hk:k<(pr m i).out.length) (hc:canW m i k=true) (hn:∀ j,j<k→canW m i j=false):stepM m i=(doW m i k,0):=by
 have ha:(pr m i).out.any (fun b=>decide (b≠[]))=true:=by
  rw [List.any_eq_true]
  refine ⟨outK m i k,?_,?_⟩
  ·unfold outK
   rw [List.getD_eq_getElem?_getD,List.getElem?_eq_getElem hk]
   exact List.getElem_mem hk
  ·unfold canW at hc
   simp only [Bool.and_eq_true] at hc
   exact hc.1.1.1
 have hf:(List.range (pr m i).out.length).find? (canW m i)=some k:=by
  rw [List.find?_range_eq_some]
  refine ⟨hc,by simpa using hk,fun j hj=>by rw [hn j hj];rfl⟩
 unfold stepM
 rw [if_neg (by rw [ho];decide),if_pos ha,hf]
theorem step_stuck {m:MachS} {i:Nat} (ho:(pr m i).over=false) (ha:(pr m i).out.any (fun b=>decide (b≠[]))=true) (hn:∀ k,k<(pr m i).out.length→canW m i k=false):stepM m i=(m,8):=by
 have hf:(List.range (pr m i).out.length).find? (canW m i)=none:=by
  rw [List.find?_eq_none]
  intro k hk
  rw [hn k (List.mem_range.1 hk)]
  decide
 unfold stepM
 rw [if_neg (by rw [ho];decide),if_pos ha,hf]
theorem stepF_ca:callable Tryz.prog 152=true:=by kernel_rfl
def stepF_P:PSpec:=fun args rows K=>StepF stepZ args rows K
noncomputable def stepF_lib:List (Nat × Spec):=[(205,readerX_S),(206,close_S)]
noncomputable def stepF_fns:List (Nat × FnI):=[(202,{fn:=Tryz.f202,hooks:=[],draws:=[]}),(256,{fn:=Tryz.f256,hooks:=[],draws:=[]}),(203,{fn:=Tryz.f203,hooks:=[],draws:=[]}),(204,{ fn:=Tryz.f204,spec:=some writeF_P }),(207,{ fn:=Tryz.f207,spec:=some readF_P })]
noncomputable def stepF_prims:List (Nat × PSpec):=[]
theorem stepF_E:EnvOK ⟨Tryz.prog,tys,stepF_lib,stepF_fns,stepF_prims,[]⟩:=env_ok mixed0 tys0 (.cons readerX_ca readerX_ok (.cons close_ca close_ok .nil)) (.cons (by kernel_rfl) ⟨Tryz.func202,by kernel_rfl,by kernel_rfl⟩ (.cons (by kernel_rfl) ⟨Tryz.func256,by kernel_rfl,by kernel_rfl⟩ (.cons (by kernel_rfl) ⟨Tryz.func203,by kernel_rfl,by kernel_rfl⟩ (.told writeF_ca rfl writeF_prim (.told readF_ca rfl readF_prim .nil))))) .nil rfl
theorem stepF_prim:PrimOK Tryz.prog 152 stepF_P:=by
 refine prim_by stepF_E 6 stepF_ca (fi:={fn:=Tryz.f152,hooks:=[18],draws:=[(15,[0,1,3,7,0,0,63,127])]}) ⟨Tryz.func152,by kernel_rfl,by kernel_rfl⟩ ?_
 rintro args rows K ⟨m,i,els,rfl,h,⟨hq,hp0,hp1,hsz,hsk⟩,rfl,hK⟩
 have hei:(els.set i (procF (pr m i)))[i]?=some (procF (pr m i)):=List.getElem?_set_self (by rw [h.nl];exact h.lt)
 have hel:(els.set i (procF (pr m i))).length=m.g.length:=by rw [List.length_set,h.nl]
 have hpe:=h.pe
 have hgf:=gf_of h.g
 have hmp:i<m.p.length:=by rw [h.np];exact h.lt
 unfold focR
 repeat' first|refine ⟨rfl,?_⟩|fail
 refine ⟨i,rfl,by rw [hel];exact h.lt,?_⟩
 conv=>whnf
 refine ⟨_,hei,?_⟩
 repeat' first|(refine fun (b:Bool) hb=>?_;cases b<;>first|exact absurd hb (by decide)|exact nfl hb|exact nfr hb|skip)|fail
 rotate_left
 ·have ho:(pr m i).over=true:=by assumption
  conv=>whnf
  skip
  have hfin:=hK []
  unfold stepM at hfin
  rw [if_pos ho] at hfin
  exact hfin
 have ho:(pr m i).over=false:=by assumption
 conv=>whnf
 refine ⟨_,hei,?_⟩
 repeat' first|(refine fun (hl:_≤MAXL)=>?_)|fail
 conv=>whnf
 refine loop_live [0,1,7] (σ:=Nat) (fun k=>[(8,.int .i64 k)]) (fun _=>[.box [.sl nodeV m.g,.sl fileV m.f,.own 1,.own 2,.sl byteV m.sunk],.row 4 (m.pipes.map pipeV),.rowq 5 (els.set i (procF (pr m i))),.row 1 ((pr m i).got.map blV),.row 1 ((pr m i).out.map blV)]) (fun k=>k≤(pr m i).out.length∧∀ j,j<k→outK m i j=[]) (fun k=>(pr m i).out.length-k) 0 ?_
 conv=>whnf
 refine ⟨(by (refine wk_sel [some 0,some 1,some 2,some 3,some 4] rfl rfl ?_ ?_<;>(repeat' (first|exact wkEls_foc hpe rfl rfl|exact True.intro|exact rfl|exact Or.inl rfl|exact Or.inr rfl|refine And.intro ?_ ?_|fail)))),⟨Nat.zero_le _,fun j hj=>by omega⟩,fun k hk=>?_⟩
 obtain ⟨hk,hno⟩:=hk
 repeat' first|(refine fun (b:Bool) hb=>?_;cases b<;>first|exact absurd hb (by decide)|exact nfl hb|exact nfr hb|skip)|refine ⟨rfl,?_⟩|fail
 ·have hkl:k=(pr m i).out.length := by
   have h:=of_decide_eq_false (by assumption:decide ((k:Int)<(((pr m i).out.map blV).length:Int))=false)
   rw [List.length_map] at h
   omega
  subst hkl
  have hany:¬ (pr m i).out.any (fun b=>decide (b≠[]))=true:=fun e=>by
   rw [List.any_eq_true] at e
   obtain ⟨b,hb,hd⟩:=e
   obtain ⟨j,hj,rfl⟩:=List.getElem_of_mem hb
   have:=hno j hj
   unfold outK at this
   rw [List.getD_eq_getElem?_getD,List.getElem?_eq_getElem hj] at this
   exact of_decide_eq_true hd this
  conv=>whnf
  refine ⟨_,hei,?_⟩
  repeat' first|(refine fun (b:Bool) hb=>?_;cases b<;>first|exact absurd hb (by decide)|exact nfl hb|exact nfr hb|skip)|fail
  ·
   have hr:(pr m i).read=false:=by assumption
   have hp1:=hp1.resolve_left (by rw [hr];decide)
   have hst:∀ o,readM m i=o→stepM m i=match o with|some m'=>(m',0)|none=>(m,8):=fun o ho2=>by
    unfold stepM
    rw [if_neg (by rw [ho];decide),if_neg hany,if_neg (by rw [hr];decide),ho2]
    cases o<;>rfl
   conv=>whnf
   skip
   refine ⟨m,i,els,rfl,h,⟨hq,hp0,hp1,hsz,hsk⟩,rfl,fun m' ex hm=>?_,fun ex hm=>?_⟩
   ·conv=>whnf
    skip
    have hfin:=hK ex
    rw [hst _ hm] at hfin
    exact hfin
   ·conv=>whnf
    skip
    have hfin:=hK ex
    rw [hst _ hm] at hfin
    exact hfin
  have hr:(pr m i).read=true:=by assumption
  conv=>whnf
  refine ⟨_,hei,?_⟩
  repeat' first|(refine fun (hl:_≤MAXL)=>?_)|fail
  conv=>whnf
  refine loop_live [0,1,5,37] (σ:=Nat) (fun k=>[(38,.int .i64 k)]) (fun k=>[.box [.sl nodeV m.g,.sl fileV m.f,.own 1,.own 2,.sl byteV m.sunk],.row 4 ((closeQs m i k).map pipeV),.rowq 5 (els.set i (procF (pr m i))),.row 1 ((pr m i).got.map blV),.row 1 ((pr m i).out.map blV)]) (fun k=>k≤(pr m i).out.length) (fun k=>(pr m i).out.length-k) 0 ?_
  conv=>whnf
  refine ⟨(by (refine wk_sel [some 0,some 1,some 2,some 3,some 4] rfl rfl ?_ ?_<;>(repeat' (first|exact wkEls_foc hpe rfl rfl|exact True.intro|exact rfl|exact Or.inl rfl|exact Or.inr rfl|refine And.intro ?_ ?_|fail)))),Nat.zero_le _,fun k hk=>?_⟩
  repeat' first|(refine fun (b:Bool) hb=>?_;cases b<;>first|exact absurd hb (by decide)|exact nfl hb|exact nfr hb|skip)|fail
  ·have hkl:k=(pr m i).out.length := by
    have h:=of_decide_eq_false (by assumption:decide ((k:Int)<(((pr m i).out.map blV).length:Int))=false)
    rw [List.length_map] at h
    omega
   subst hkl
   have hs:stepM m i=(closeM m i,0):=by
    unfold stepM
    rw [if_neg (by rw [ho];decide),if_neg hany,if_pos hr]
   have hf:focR (closeM m i) i els=[.box [.sl nodeV m.g,.sl fileV m.f,.own 1,.own 2,.sl byteV m.sunk],.row 4 ((closeQs m i (pr m i).out.length).map pipeV),.rowq 5 (els.set i (procF ⟨(pr m i).got,(pr m i).pos,(pr m i).out,(pr m i).read,true⟩)),.row 1 ((pr m i).got.map blV),.row 1 ((pr m i).out.map blV)]:=focR_set hmp
   conv=>whnf
   refine join_live [] (σ:=Unit) (fun _=>[]) (fun _=>[.box [.sl nodeV m.g,.sl fileV m.f,.own 1,.own 2,.sl byteV m.sunk],.row 4 ((closeQs m i (pr m i).out.length).map pipeV),.rowq 5 (els.set i (procF ⟨(pr m i).got,(pr m i).pos,(pr m i).out,(pr m i).read,true⟩)),.row 1 ((pr m i).got.map blV),.row 1 ((pr m i).out.map blV)]) (fun _=>True) ?_
   conv=>whnf
   refine ⟨?_,fun _ _=>?_⟩
   ·conv=>whnf
    refine ⟨_,hei,?_⟩
    conv=>whnf
    rw [List.set_set]
    refine ⟨(),?_,trivial⟩
    refine wk_sel [some 0,some 1,some 2,some 3,some 4] rfl rfl ?_ ?_<;>(repeat' (first|exact wkEls_foc2 hpe ⟨rfl,rfl,rfl,rfl,Or.inr rfl,trivial⟩|exact True.intro|exact rfl|exact Or.inl rfl|exact Or.inr rfl|refine And.intro ?_ ?_|fail))
    all_goals done
   conv=>whnf
   skip
   have hfin:=hK []
   rw [hs] at hfin
   dsimp only at hfin
   rw [hf] at hfin
   exact hfin
  have hk2:k<(pr m i).out.length:=by
   have h:=of_decide_eq_true (by assumption:decide ((k:Int)<(((pr m i).out.map blV).length:Int))=true)
   rw [List.length_map] at h
   omega
  have hrl:=rdr_lt h hk2
  have hlen:=closeQs_len m i k
  have hrq:rdr m i k<(closeQs m i k).length:=by rw [hlen,h.nq];exact hrl
  have hgq:((closeQs m i k).map pipeV)[rdr m i k]?=some (pipeV ((closeQs m i k).getD (rdr m i k) zP)):=by
   rw [List.getElem?_map,List.getElem?_eq_getElem hrq,List.getD_eq_getElem?_getD,List.getElem?_eq_getElem hrq]
   rfl
  obtain ⟨c1,c2⟩:=close_link ((closeQs m i k).getD (rdr m i k) zP)
  conv=>whnf
  skip
  refine ⟨m.g,⟨i,k⟩,rfl,allIns_small h.g,?_⟩
  rw [show readerI m.g ⟨(i:Int),(k:Int)⟩=rdr m i k from rfl,if_pos hrl]
  repeat' first|refine ⟨rfl,?_⟩|fail
  refine ⟨rdr m i k,rfl,by rw [List.length_map];exact hrq,?_⟩
  conv=>whnf
  refine ⟨_,hgq,?_⟩
  skip
  refine ⟨(closeQs m i k).getD (rdr m i k) zP,rfl,?_⟩
  repeat' first|exact True.intro|(refine fun (b:Bool) hb=>?_;cases b<;>first|exact absurd hb (by decide)|exact nfl hb|exact nfr hb|skip)|refine And.intro (a:=I64 _) ?_ ?_|refine ⟨_,⟨rfl,rfl⟩,?_⟩|refine And.intro (a:=chkPast _ _ _ _ _ _ _ _) ?_ ?_|fail
  ·have hM:((pr m i).out.map blV).length≤MAXL:=by assumption
   rw [List.length_map] at hM
   unfold I64;unfold MAXL at hM;omega
  ·have hne:=of_decide_eq_false (by assumption:decide ((pipeClose ((closeQs m i k).getD (rdr m i k) zP)).2=0)=false)
   have hst:closeQs m i (k+1)=closeQs m i k:=by
    show (closeQs m i k).set (rdr m i k) (closeP ((closeQs m i k).getD (rdr m i k) zP))=closeQs m i k
    rw [c2 hne,set_getD_self _ _ _ hrq]
   refine ⟨k+1,?_,hk2,by omega⟩
   show Wk _ _ _ _ [.box [.sl nodeV m.g,.sl fileV m.f,.own 1,.own 2,.sl byteV m.sunk],.row 4 ((closeQs m i (k+1)).map pipeV),.rowq 5 (els.set i (procF (pr m i))),.row 1 ((pr m i).got.map blV),.row 1 ((pr m i).out.map blV)]
   rw [hst]
   exact (by (refine wk_sel [some 0,some 1,some 2,some 3,some 4] rfl rfl ?_ ?_<;>(repeat' (first|exact wkEls_foc hpe rfl rfl|exact True.intro|exact rfl|exact Or.inl rfl|exact Or.inr rfl|refine And.intro ?_ ?_|fail))))
  have hne:=of_decide_eq_true (by assumption:decide ((pipeClose ((closeQs m i k).getD (rdr m i k) zP)).2=0)=true)
  have hst:closeQs m i (k+1)=(closeQs m i k).set (rdr m i k) (pipeClose ((closeQs m i k).getD (rdr m i k) zP)).1:=by
   rw [c1 hne];rfl
  conv=>whnf
  skip
  conv=>whnf
  apply Exists.intro
  apply And.intro
  ·refine ⟨rfl,rdr m i k,rfl,by rw [List.length_map];exact hrq,?_⟩
   exact ⟨rfl,rfl⟩
  conv=>whnf
  refine ⟨trivial,?_⟩
  conv=>whnf
  apply Exists.intro
  apply Exists.intro
  apply And.intro
  ·conv=>whnf
   refine ⟨by rw [List.length_map];exact hrq,?_⟩
   exact ⟨rfl,rfl⟩
  conv=>whnf
  repeat' first|exact True.intro|refine And.intro (a:=I64 _) ?_ ?_|refine And.intro (a:=chkPend _ _ _ _ _ _) ?_ ?_|fail
  conv=>whnf
  skip
  ·have hM:((pr m i).out.map blV).length≤MAXL:=by assumption
   rw [List.length_map] at hM
   unfold MAXL at hM;(try unfold I64);omega
  refine ⟨k+1,?_,hk2,by omega⟩
  show Wk _ _ _ _ [.box [.sl nodeV m.g,.sl fileV m.f,.own 1,.own 2,.sl byteV m.sunk],.row 4 ((closeQs m i (k+1)).map pipeV),.rowq 5 (els.set i (procF (pr m i))),.row 1 ((pr m i).got.map blV),.row 1 ((pr m i).out.map blV)]
  rw [hst,List.map_set]
  exact (by (refine wk_sel [some 0,some 1,some 2,some 3,some 4] rfl rfl ?_ ?_<;>(repeat' (first|exact wkEls_foc hpe rfl rfl|exact True.intro|exact rfl|exact Or.inl rfl|exact Or.inr rfl|refine And.intro ?_ ?_|fail))))
 ·have hk2:k<(pr m i).out.length := by
   have h:=of_decide_eq_true (by assumption:decide ((k:Int)<(((pr m i).out.map blV).length:Int))=true)
   rw [List.length_map] at h
   omega
  have hgk:((pr m i).out.map blV)[k]?=some (blV (outK m i k)):=by
   unfold outK
   rw [List.getElem?_map,List.getElem?_eq_getElem hk2,List.getD_eq_getElem?_getD,List.getElem?_eq_getElem hk2];rfl
  refine ⟨k,rfl,by rw [List.length_map];exact hk2,?_⟩
  conv=>whnf
  refine ⟨_,hgk,?_⟩
  repeat' first|(refine fun (b:Bool) hb=>?_;cases b<;>first|exact absurd hb (by decide)|exact nfl hb|exact nfr hb|skip)|(refine fun (hl:_≤MAXL)=>?_)|refine And.intro (a:=I64 _) ?_ ?_|fail
  ·have hM:((pr m i).out.map blV).length≤MAXL:=by assumption
   rw [List.length_map] at hM
   unfold I64;unfold MAXL at hM;omega
  ·have he:outK m i k=[] := by
    have h:=of_decide_eq_false (by assumption:decide (0<((outK m i k).length:Int))=false)
    exact List.length_eq_zero_iff.1 (by omega)
   refine ⟨k+1,(by (refine wk_sel [some 0,some 1,some 2,some 3,some 4] rfl rfl ?_ ?_<;>(repeat' (first|exact wkEls_foc hpe rfl rfl|exact True.intro|exact rfl|exact Or.inl rfl|exact Or.inr rfl|refine And.intro ?_ ?_|fail)))),⟨by omega,fun j hj=>?_⟩,by omega⟩
   rcases Nat.lt_or_ge j k with h2|h2
   ·exact hno j h2
   ·obtain rfl:j=k:=by omega
    exact he
  have hne:outK m i k≠[]:=by
   have h:=of_decide_eq_true (by assumption:decide (0<((outK m i k).length:Int))=true)
   intro e
   rw [e] at h
   exact absurd h (by decide)
  have hany:(pr m i).out.any (fun b=>decide (b≠[]))=true:=by
   rw [List.any_eq_true]
   refine ⟨outK m i k,?_,decide_eq_true hne⟩
   unfold outK
   rw [List.getD_eq_getElem?_getD,List.getElem?_eq_getElem hk2]
   exact List.getElem_mem hk2
  conv=>whnf
  skip
  refine ⟨m,i,els,rfl,h,rfl,fun j ex hj hc hn=>?_,fun hn ex=>?_⟩
  ·conv=>whnf
   skip
   have hfin:=hK ex
   rw [step_write ho hj hc hn] at hfin
   exact hfin
  ·conv=>whnf
   skip
   have hfin:=hK ex
   rw [step_stuck ho hany hn] at hfin
   exact hfin
end Gv
namespace Gv
variable [Glob] [Laid]
theorem outs_ca:callable Tryz.prog 82=true:=by kernel_rfl
def outs_S:Spec:=fun args K=>∃ n:Gp.Node,args=[nodeV n]∧K (.int .i64 (outsN n))
noncomputable def outs_lib:List (Nat × Spec):=[]
noncomputable def outs_fns:List (Nat × FnI):=[]
noncomputable def outs_prims:List (Nat × PSpec):=[]
theorem outs_E:EnvOK ⟨Tryz.prog,tys,outs_lib,outs_fns,outs_prims,[]⟩:=env_ok mixed0 tys0 .nil .nil .nil rfl
theorem outs_ok:Pure Tryz.prog 82 outs_S:=by
 refine pure_by outs_E 6 (fi:={fn:=Tryz.f82,hooks:=[],draws:=[]}) ⟨Tryz.func82,by kernel_rfl,by kernel_rfl⟩ ?_
 rintro _ K ⟨n,rfl,hK⟩
 replace hK:∀ r,r=.int .i64 (outsN n)→K r:=fun r h=>h ▸ hK
 unfold outsN at hK
 repeat' first|(refine fun (b:Bool) hb=>?_;cases b<;>first|exact absurd hb (by decide)|exact nfl hb|exact nfr hb|skip)|fail
 ·have h2:¬ n.kind=2:=of_decide_eq_false (by assumption)
  have h5:¬ n.kind=5:=of_decide_eq_false (by assumption)
  rw [if_neg h2,if_neg h5] at hK
  exact hK _ rfl
 ·have h2:¬ n.kind=2:=of_decide_eq_false (by assumption)
  have h5:n.kind=5:=of_decide_eq_true (by assumption)
  rw [if_neg h2,if_pos h5] at hK
  exact hK _ rfl
 ·have h2:n.kind=2:=of_decide_eq_true (by assumption)
  rw [if_pos h2] at hK
  exact hK _ rfl
end Gv
namespace Gv
variable [Glob] [Laid]
def lbV (l:List Bs):V:=.sl blV l
theorem concatBL_ca:callable Tryz.prog 255=true:=by kernel_rfl
def concatBL_S:Spec:=fun args K=>∃ a:List (List Bs),args=[.sl lbV a]∧a.flatten.length≤1000000∧K (.sl blV a.flatten)
noncomputable def concatBL_lib:List (Nat × Spec):=[]
noncomputable def concatBL_fns:List (Nat × FnI):=[(294,{fn:=Tryz.f294,hooks:=[],draws:=[]})]
noncomputable def concatBL_prims:List (Nat × PSpec):=[]
theorem concatBL_E:EnvOK ⟨Tryz.prog,tys,concatBL_lib,concatBL_fns,concatBL_prims,[]⟩:=env_ok mixed0 tys0 .nil (.cons (by kernel_rfl) ⟨Tryz.func294,by kernel_rfl,by kernel_rfl⟩ .nil) .nil rfl
theorem concatBL_ok:Pure Tryz.prog 255 concatBL_S:=by
 refine pure_by concatBL_E 6 (fi:={fn:=Tryz.f255,hooks:=[10],draws:=[]}) ⟨Tryz.func255,by kernel_rfl,by kernel_rfl⟩ ?_
 rintro _ K ⟨x,rfl,hx,hK⟩
 replace hK:∀ p,p=.sl blV x.flatten→K p:=fun r h=>h ▸ hK
 obtain ⟨f,hf⟩:∃ f:Nat→List Bs,∀ i,f i=(x.take i).flatten:=⟨_,fun _=>rfl⟩
 have f0:f 0=[]:=by simp [hf]
 have fS:∀ i (h:i<x.length),f (i+1)=f i++x[i]:=fun i h=>by
  rw [hf,hf,List.take_succ_eq_append_getElem h]
  simp only [List.flatten_append,List.flatten_cons,List.flatten_nil,List.append_nil]
 have fN:∀ i,x.length≤i→f i=x.flatten:=fun i h=>by simp [hf,List.take_of_length_le h]
 have fl:∀ i,(f i).length≤1000000:=fun i=>by
  rw [←List.take_append_drop i x] at hx
  simp only [List.flatten_append,List.length_append] at hx
  rw [hf];omega
 clear hf
 refine fun (hl:_≤MAXL)=>?_
 conv=>whnf
 refine loop_intro (σ:=Nat) (fun i=>[(0,.sl lbV x),(2,.nil),(9,.sl lbV x),(10,.int .i64 x.length),(11,.int .i64 i),(3,.int .i64 ((f i).length:Nat))]) (fun _=>[]) (fun i=>i≤x.length) (fun i=>x.length-i) 0 (wk_sel [] rfl rfl trivial ?_) (Nat.zero_le _) ?_
 ·simp only [f0]
  (repeat' first|exact True.intro|exact rfl|exact .inl rfl|exact .inr rfl|refine And.intro ?_ ?_|fail)
 intro i hi
 have hs:=fl i
 repeat' first|(refine fun (b:Bool) hb=>?_;cases b<;>first|exact absurd hb (by decide)|exact nfl hb|exact nfr hb|skip)|(refine fun (hl:_≤MAXL)=>?_)|refine And.intro (a:=I64 _) ?_ ?_|refine ⟨_,rfl,?_,rfl,?_⟩|fail
 ·conv=>whnf
  refine join_intro (σ:=Unit) (fun _=>[(0,.sl lbV x),(2,.nil),(6,.own 0)]) (fun _=>[.row 1 []]) (fun _=>True) ?_ ?_
  ·repeat' first|(refine fun (b:Bool) hb=>?_;cases b<;>first|exact absurd hb (by decide)|exact nfl hb|exact nfr hb|skip)|(refine fun (hl:_≤MAXL)=>?_)|refine And.intro (a:=I64 _) ?_ ?_|refine ⟨rfl,?_⟩|fail
   ·unfold I64;omega
   ·unfold I64;omega
   ·refine ⟨(),wk_sel [none] rfl rfl trivial ?_,trivial⟩
    (repeat' first|exact True.intro|exact rfl|exact .inl rfl|exact .inr rfl|refine And.intro ?_ ?_|fail)
   ·refine ⟨(f i).length,by simp,by grind,by simp only [Nat.mul_one];omega,?_⟩
    refine fun _=>?_
    refine ⟨0,rfl,Nat.zero_le _,?_⟩
    refine ⟨(),wk_sel [some 1] rfl rfl ⟨rfl,trivial⟩ ?_,trivial⟩
    (repeat' first|exact True.intro|exact rfl|exact .inl rfl|exact .inr rfl|refine And.intro ?_ ?_|fail)
  intro _ _
  refine fun (hl:_≤MAXL)=>?_
  conv=>whnf
  refine loop_intro (σ:=Nat) (fun i=>[(0,.sl lbV x),(2,.nil),(6,.own 0),(25,.sl lbV x),(26,.int .i64 x.length),(27,.int .i64 i)]) (fun i=>[.row 1 ((f i).map blV)]) (fun i=>i≤x.length) (fun i=>x.length-i) 0 (wk_sel [some 0] rfl rfl ⟨?_,trivial⟩ ?_) (Nat.zero_le _) ?_
  ·rw [f0];exact rfl
  ·(repeat' first|exact True.intro|exact rfl|exact .inl rfl|exact .inr rfl|refine And.intro ?_ ?_|fail)
  intro i hi
  have hs:=fl i
  repeat' first|refine ⟨_,_,_,LeL.refl _,?_⟩|(refine fun (b:Bool) hb=>?_;cases b<;>first|exact absurd hb (by decide)|exact nfl hb|exact nfr hb|skip)|refine And.intro (a:=I64 _) ?_ ?_|refine And.intro (a:=_≤140737488355328) ?_ ?_|refine ⟨_,rfl,?_,rfl,?_⟩|refine ⟨(fun _=>rfl),?_⟩|fail
  ·refine hK _ ?_
   rw [fN i (by grind)]
  ·grind
  ·have:=fl (i+1)
   rw [fS i (by grind)] at this
   simp only [List.length_append,List.length_map,lbV,elsOf] at this ⊢
   omega
  ·unfold I64;grind
  ·refine ⟨i+1,?_,?_,?_⟩
   ·refine wk_sel [some 1] rfl rfl ⟨?_,trivial⟩ ?_
    ·rw [fS i (by grind),List.map_append]
     exact rfl
    ·(repeat' first|exact True.intro|exact rfl|exact .inl rfl|exact .inr rfl|refine And.intro ?_ ?_|fail)
   ·grind
   ·grind
 ·grind
 ·unfold I64;grind
 ·unfold I64;grind
 ·refine ⟨i+1,?_,?_,?_⟩
  ·refine wk_sel [] rfl rfl trivial ?_
   rw [fS i (by grind)]
   simp only [List.length_append]
   (repeat' first|exact True.intro|exact rfl|exact .inl rfl|exact .inr rfl|refine And.intro ?_ ?_|fail)
  ·grind
  ·grind
end Gv
namespace Gv
variable [Glob] [Laid]
theorem checkPX_ca:callable Tryz.prog 197=true:=by kernel_rfl
def checkPX_S:Spec:=fun args K=>∃ (n:Gp.Node) (p:ProcS),args=[nodeV n,procV p]∧checkN n=0∧K (.int .i64 (checkProc n p))
noncomputable def checkPX_lib:List (Nat × Spec):=[(82,outs_S),(255,concatBL_S)]
noncomputable def checkPX_fns:List (Nat × FnI):=[]
noncomputable def checkPX_prims:List (Nat × PSpec):=[]
theorem checkPX_E:EnvOK ⟨Tryz.prog,tys,checkPX_lib,checkPX_fns,checkPX_prims,[]⟩:=env_ok mixed0 tys0 (.cons outs_ca outs_ok (.cons concatBL_ca concatBL_ok .nil)) .nil .nil rfl
theorem checkPX_ok:Pure Tryz.prog 197 checkPX_S:=by
 refine pure_by checkPX_E 6 (fi:={fn:=Tryz.f197,hooks:=[3,5,7],draws:=[(1,[0,1,3,0,8,24,63,127,255,511,1023,255,2303,8191,16383])]}) ⟨Tryz.func197,by kernel_rfl,by kernel_rfl⟩ ?_
 rintro _ K ⟨n,p,rfl,hc,hK⟩
 replace hK:∀ r,r=.int .i64 (checkProc n p)→K r:=fun r h=>h ▸ hK
 have c4:(p.got.length≠n.ins.length∨(p.out.length:Int)≠outsN n)→V.int .i64 4=V.int .i64 (checkProc n p):=fun h=>by unfold checkProc;rw [if_pos h]
 have hi:=ins_le hc
 have ho:=outsN_bnd hc
 conv=>whnf
 refine join_live [2,3] (σ:=Unit) (fun _=>[(2,.ptr 0 0 0),(3,.ptr 1 0 0)]) (fun _=>[.box (nodeV n).cells,.box (procV p).cells]) (fun _=>¬ (p.got.length≠n.ins.length∨(p.out.length:Int)≠outsN n)) ?_
 conv=>whnf
 refine ⟨?_,fun _ h1=>?_⟩
 ·conv=>whnf
  repeat' first|exact True.intro|(refine fun (b:Bool) hb=>?_;cases b<;>first|exact absurd hb (by decide)|exact nfl hb|exact nfr hb|skip)|refine ⟨_,⟨rfl,rfl⟩,?_⟩|refine ⟨_,(fun _=>⟨rfl,rfl⟩),?_⟩|refine And.intro (a:=chkPast _ _ _ _ _ _ _ _) ?_ ?_|fail
  ·conv=>whnf
   skip
   apply Exists.intro
   apply And.intro
   ·refine ⟨n,rfl,?_⟩
    exact ⟨rfl,rfl⟩
   conv=>whnf
   repeat' first|(refine fun (b:Bool) hb=>?_;cases b<;>first|exact absurd hb (by decide)|exact nfl hb|exact nfr hb|skip)|refine ⟨_,⟨rfl,rfl⟩,?_⟩|fail
   all_goals (try (conv=>whnf))
   all_goals (skip)
   all_goals first
    | exact hK _ (c4 (by grind))
    | exact ⟨(),(by (refine wk_auto ?_;refine Sel4.mk rfl rfl ?_ ?_<;>(repeat' first|exact True.intro|exact rfl|exact .inl rfl|exact .inr rfl|refine And.intro ?_ ?_|fail))),by grind⟩
  all_goals (try (conv=>whnf))
  all_goals (skip)
  all_goals (try (conv=>whnf))
  all_goals (skip)
  all_goals (try (conv=>whnf))
  all_goals (skip)
  all_goals first
   | exact hK _ (c4 (by grind))
   | exact ⟨(),(by (refine wk_auto ?_;refine Sel4.mk rfl rfl ?_ ?_<;>(repeat' first|exact True.intro|exact rfl|exact .inl rfl|exact .inr rfl|refine And.intro ?_ ?_|fail))),by grind⟩
 have c3:(p.pos<0∨(n.ins.length:Int)<p.pos∨(p.read=false∧p.over=true))→V.int .i64 3=V.int .i64 (checkProc n p):=fun h=>by unfold checkProc;rw [if_neg h1,if_pos h]
 conv=>whnf
 refine join_live [2,3] (σ:=Unit) (fun _=>[]) (fun _=>[.box (nodeV n).cells,.box (procV p).cells]) (fun _=>¬ (p.pos<0∨(n.ins.length:Int)<p.pos∨(p.read=false∧p.over=true))) ?_
 conv=>whnf
 refine ⟨?_,fun _ h2=>?_⟩
 ·conv=>whnf
  repeat' first|(refine fun (b:Bool) hb=>?_;cases b<;>first|exact absurd hb (by decide)|exact nfl hb|exact nfr hb|skip)|(refine fun (hl:_≤MAXL)=>?_)|fail
  all_goals (try (conv=>whnf))
  all_goals (skip)
  all_goals (try (conv=>whnf))
  all_goals (skip)
  all_goals (try (conv=>whnf))
  all_goals (skip)
  all_goals first
   | exact hK _ (c3 (by grind))
   | exact ⟨(),(by (refine wk_auto ?_;refine Sel4.mk rfl rfl ?_ ?_<;>(repeat' first|exact True.intro|exact rfl|exact .inl rfl|exact .inr rfl|refine And.intro ?_ ?_|fail))),by grind⟩
 have c3b:(p.read=false∧p.pos=(n.ins.length:Int)∧0<n.ins.length)→V.int .i64 3=V.int .i64 (checkProc n p):=fun h=>by unfold checkProc;rw [if_neg h1,if_neg h2,if_pos h]
 conv=>whnf
 refine join_live [3] (σ:=Unit) (fun _=>[]) (fun _=>[.box (nodeV n).cells,.box (procV p).cells]) (fun _=>¬ (p.read=false∧p.pos=(n.ins.length:Int)∧0<n.ins.length)) ?_
 conv=>whnf
 refine ⟨?_,fun _ h3=>?_⟩
 ·conv=>whnf
  repeat' first|(refine fun (b:Bool) hb=>?_;cases b<;>first|exact absurd hb (by decide)|exact nfl hb|exact nfr hb|skip)|(refine fun (hl:_≤MAXL)=>?_)|fail
  all_goals (try (conv=>whnf))
  all_goals (skip)
  all_goals (try (conv=>whnf))
  all_goals (skip)
  all_goals (try (conv=>whnf))
  all_goals (skip)
  all_goals first
   | exact hK _ (c3b (by grind))
   | exact ⟨(),(by (refine wk_auto ?_;refine Sel4.mk rfl rfl ?_ ?_<;>(repeat' first|exact True.intro|exact rfl|exact .inl rfl|exact .inr rfl|refine And.intro ?_ ?_|fail))),by grind⟩
 conv=>whnf
 skip
 refine ⟨List Bs,lbV,[p.got,p.out],LeL.refl _,?_⟩
 skip
 refine ⟨[p.got,p.out],rfl,?_,?_⟩
 ·simp;omega
 have hfl:[p.got,p.out].flatten=p.got++p.out:=by simp
 generalize [p.got,p.out].flatten=L at hfl
 repeat' first|(refine fun (hl:_≤MAXL)=>?_)|fail
 conv=>whnf
 refine loop_live [64,65] (σ:=Nat) (fun k=>[(66,.int .i64 k)]) (fun _=>[.box (nodeV n).cells,.box (procV p).cells]) (fun k=>k≤L.length∧∀ b∈L.take k,b.length≤40000) (fun k=>L.length-k) 0 ?_
 conv=>whnf
 refine ⟨(by (refine wk_auto ?_;refine Sel4.mk rfl rfl ?_ ?_<;>(repeat' first|exact True.intro|exact rfl|exact .inl rfl|exact .inr rfl|refine And.intro ?_ ?_|fail))),⟨Nat.zero_le _,by simp⟩,fun k hk=>?_⟩
 obtain ⟨hk,hno⟩:=hk
 repeat' first|(refine fun (b:Bool) hb=>?_;cases b<;>first|exact absurd hb (by decide)|exact nfl hb|exact nfr hb|skip)|(refine fun (hl:_≤MAXL)=>?_)|refine And.intro (a:=I64 _) ?_ ?_|refine ⟨_,rfl,?_,rfl,?_⟩|fail
 ·have hkl:k=L.length := by
   have h:=of_decide_eq_false (by assumption:decide ((k:Int)<(L.length:Int))=false)
   omega
  subst hkl
  rw [List.take_length] at hno
  conv=>whnf
  skip
  refine hK _ ?_
  unfold checkProc
  rw [if_neg h1,if_neg h2,if_neg h3,←hfl,if_neg]
  rw [List.any_eq_true]
  rintro ⟨b,hb,hd⟩
  have:=of_decide_eq_true hd
  have:=hno b hb
  omega
 ·have h:=of_decide_eq_true (by assumption:decide ((k:Int)<(L.length:Int))=true)
  omega
 all_goals
  have hk2:k<L.length:=by
   have h:=of_decide_eq_true (by assumption:decide ((k:Int)<(L.length:Int))=true)
   omega
 ·have hM:L.length≤MAXL:=by assumption
  unfold I64;unfold MAXL at hM;omega
 ·refine ⟨k+1,(by (refine wk_auto ?_;refine Sel4.mk rfl rfl ?_ ?_<;>(repeat' first|exact True.intro|exact rfl|exact .inl rfl|exact .inr rfl|refine And.intro ?_ ?_|fail))),⟨hk2,fun b hb=>?_⟩,by omega⟩
  rw [List.take_succ_eq_append_getElem hk2] at hb
  rcases List.mem_append.1 hb with hb|hb
  ·exact hno b hb
  ·rw [List.mem_singleton.1 hb]
   have h:=of_decide_eq_false (by assumption:decide (40000<(L[k].length:Int))=false)
   omega
 ·conv=>whnf
  skip
  refine hK _ ?_
  unfold checkProc
  rw [if_neg h1,if_neg h2,if_neg h3,←hfl,if_pos]
  rw [List.any_eq_true]
  refine ⟨L[k],List.getElem_mem hk2,decide_eq_true ?_⟩
  have h:=of_decide_eq_true (by assumption:decide (40000<(L[k].length:Int))=true)
  omega
end Gv
namespace Gv
variable [Glob] [Laid]
theorem checkJ_ca:callable Tryz.prog 61=true:=by kernel_rfl
def checkJ_S:Spec:=fun args K=>∃ (h:Int) (c:Cmd),args=[.int .i64 h,cmdV c]∧K (.int .i64 (checkJoin h c))
noncomputable def checkJ_lib:List (Nat × Spec):=[(31,ccheck_S)]
noncomputable def checkJ_fns:List (Nat × FnI):=[]
noncomputable def checkJ_prims:List (Nat × PSpec):=[]
theorem checkJ_E:EnvOK ⟨Tryz.prog,tys,checkJ_lib,checkJ_fns,checkJ_prims,[(48,[true,false,true])]⟩:=env_ok mixed0 tys0 (.cons ccheck_ca ccheck_ok .nil) .nil .nil (by kernel_rfl)
theorem checkJ_ok:Pure Tryz.prog 61 checkJ_S:=by
 refine pure_by checkJ_E 6 (fi:={fn:=Tryz.f61,hooks:=[],draws:=[]}) ⟨Tryz.func61,by kernel_rfl,by kernel_rfl⟩ ?_
 rintro _ K ⟨h,c,rfl,hK⟩
 replace hK:∀ r,r=.int .i64 (checkJoin h c)→K r:=fun r h=>h ▸ hK
 obtain ⟨ck,cw,cn⟩:=c
 obtain ⟨q,hq⟩:∃ q,checkCmd ⟨ck,cw,cn⟩=q:=⟨_,rfl⟩
 unfold checkJoin at hK
 rw [hq] at hK
 repeat' first|(refine fun (b:Bool) hb=>?_;cases b<;>first|exact absurd hb (by decide)|exact nfl hb|exact nfr hb|skip)|fail
 ·have h1:¬ h<1:=of_decide_eq_false (by assumption)
  have h2:¬ 4<h:=of_decide_eq_false (by assumption)
  have h3:h=4:=by
   have h3:(!decide (h=4))=false:=by assumption
   simpa using h3
  refine ⟨ck,cw,cn,rfl,?_⟩
  rw [hq]
  skip
  refine hK _ ?_
  rw [if_neg (by omega),if_neg (by omega)]
 ·have h1:¬ h<1:=of_decide_eq_false (by assumption)
  have h2:¬ 4<h:=of_decide_eq_false (by assumption)
  have h3:¬ h=4:=by
   have h3:(!decide (h=4))=true:=by assumption
   simpa using h3
  have hz:(⟨ck,cw,cn⟩:Cmd)=zCmd:=by
   unfold zCmd
   grind
  conv=>whnf
  refine hK _ ?_
  rw [if_neg (by omega),if_pos h3,if_neg (fun e=>e hz)]
 ·have h1:¬ h<1:=of_decide_eq_false (by assumption)
  have h2:¬ 4<h:=of_decide_eq_false (by assumption)
  have h3:¬ h=4:=by
   have h3:(!decide (h=4))=true:=by assumption
   simpa using h3
  have hz:(⟨ck,cw,cn⟩:Cmd)≠zCmd:=by
   unfold zCmd
   grind
  conv=>whnf
  refine hK _ ?_
  rw [if_neg (by omega),if_pos h3,if_pos hz]
 ·have h2:4<h:=of_decide_eq_true (by assumption)
  conv=>whnf
  refine hK _ ?_
  rw [if_pos (by omega)]
 ·have h2:h<1:=of_decide_eq_true (by assumption)
  conv=>whnf
  refine hK _ ?_
  rw [if_pos (by omega)]
end Gv
namespace Gv
variable [Glob] [Laid]
theorem cmd_ext {a b:Cmd} (h1:a.kind=b.kind) (h2:a.word=b.word) (h3:a.n=b.n):a=b:=by
 cases a;cases b;simp_all
theorem node_ext {a b:Gp.Node} (h1:a.kind=b.kind) (h2:a.file=b.file) (h3:a.c=b.c) (h4:a.how=b.how) (h5:a.wide=b.wide) (h6:a.ins=b.ins):a=b:=by
 cases a;cases b;simp_all
theorem checkN_ca:callable Tryz.prog 143=true:=by kernel_rfl
def checkN_S:Spec:=fun args K=>∃ n:Gp.Node,args=[nodeV n]∧K (.int .i64 (checkN n))
noncomputable def checkN_lib:List (Nat × Spec):=[(32,word_S),(31,ccheck_S),(61,checkJ_S)]
noncomputable def checkN_fns:List (Nat × FnI):=[]
noncomputable def checkN_prims:List (Nat × PSpec):=[]
theorem checkN_E:EnvOK ⟨Tryz.prog,tys,checkN_lib,checkN_fns,checkN_prims,[(48,[true,false,true])]⟩:=env_ok mixed0 tys0 (.cons word_ca word_ok (.cons ccheck_ca ccheck_ok (.cons checkJ_ca checkJ_ok .nil))) .nil .nil (by kernel_rfl)
theorem checkN_ok:Pure Tryz.prog 143 checkN_S:=by
 refine pure_by checkN_E 6 (fi:={fn:=Tryz.f143,hooks:=[23],draws:=[(20,[0,1,0,4,3,19,63,127])]}) ⟨Tryz.func143,by kernel_rfl,by kernel_rfl⟩ ?_
 rintro _ K ⟨n,rfl,hK⟩
 replace hK:∀ r,r=.int .i64 (checkN n)→K r:=fun r h=>h ▸ hK
 repeat' first|(refine fun (hl:_≤MAXL)=>?_)|fail
 conv=>whnf
 refine join_live [1,3] (σ:=Unit) (fun _=>[(4,.int .i64 (errN n)),(5,.bool (insN n))]) (fun _=>[.box (nodeV n).cells,.box (nodeV (wantN n)).cells]) (fun _=>1≤n.kind∧n.kind≤5) ?_
 conv=>whnf
 refine ⟨?_,fun _ hk=>?_⟩
 ·repeat' first|exact True.intro|(refine fun (b:Bool) hb=>?_;cases b<;>first|exact absurd hb (by decide)|exact nfl hb|exact nfr hb|skip)|refine ⟨_,⟨rfl,rfl⟩,?_⟩|refine ⟨_,_,⟨rfl,rfl⟩,?_⟩|refine And.intro (a:=chkPend _ _ _ _ _ _) ?_ ?_|refine And.intro (a:=chkPast _ _ _ _ _ _ _ _) ?_ ?_|refine ⟨⟨rfl,rfl⟩,?_⟩|fail
  all_goals first|exact absurd ((by assumption:decide (n.kind=1)=true).symm.trans (by assumption:decide (n.kind=1)=false)) (by decide)|skip
  ·have h1:¬ n.kind=1:=of_decide_eq_false (by assumption)
   have h5:¬ n.kind=5:=of_decide_eq_false (by assumption)
   have h2:¬ n.kind=2:=of_decide_eq_false (by assumption)
   have h3:¬ n.kind=3:=of_decide_eq_false (by assumption)
   have h4:¬ n.kind=4:=of_decide_eq_false (by assumption)
   conv=>whnf
   refine hK _ ?_
   unfold checkN
   rw [if_pos (by omega)]
  ·have h4:n.kind=4:=of_decide_eq_true (by assumption)
   have e1:errN n=checkJoin n.how n.c:=by unfold errN;rw [if_neg (by omega),if_neg (by omega),if_neg (by omega)]
   have e2:insN n=(decide ((1:Int)≤(n.ins.length:Int)) && decide ((n.ins.length:Int)≤5)):=by unfold insN;rw [if_neg (by omega),if_pos h4]
   have e3:wantN n=⟨n.kind,[],n.c,n.how,0,n.ins⟩:=by unfold wantN;simp [h4]
   conv=>whnf
   refine ⟨n.how,n.c,rfl,?_⟩
   repeat' first|(refine fun (b:Bool) hb=>?_;cases b<;>first|exact absurd hb (by decide)|exact nfl hb|exact nfr hb|skip)|(refine fun (hl:_≤MAXL)=>?_)|fail
   all_goals (conv=>whnf)
   ·refine ⟨(),?_,by omega⟩
    rw [e1,e2,e3,(by assumption:decide ((1:Int)≤(n.ins.length:Int))=false),Bool.false_and]
    exact (by (refine wk_auto ?_;refine Sel4.mk rfl rfl ?_ ?_<;>(repeat' first|exact True.intro|exact rfl|exact .inl rfl|exact .inr rfl|refine And.intro ?_ ?_|fail)))
   ·refine ⟨(),?_,by omega⟩
    rw [e1,e2,e3,(by assumption:decide ((1:Int)≤(n.ins.length:Int))=true),Bool.true_and]
    exact (by (refine wk_auto ?_;refine Sel4.mk rfl rfl ?_ ?_<;>(repeat' first|exact True.intro|exact rfl|exact .inl rfl|exact .inr rfl|refine And.intro ?_ ?_|fail)))
  ·have h3:n.kind=3:=of_decide_eq_true (by assumption)
   have e1:errN n=checkCmd n.c:=by unfold errN;rw [if_neg (by omega),if_neg (by omega),if_pos h3]
   have e2:insN n=decide ((n.ins.length:Int)=1):=by unfold insN;rw [if_neg (by omega),if_neg (by omega)]
   have e3:wantN n=⟨n.kind,[],n.c,0,0,n.ins⟩:=by unfold wantN;simp [h3]
   conv=>whnf
   refine ⟨n.c.kind,n.c.word,n.c.n,rfl,?_⟩
   conv=>whnf
   refine ⟨(),?_,by omega⟩
   rw [e1,e2,e3]
   exact (by (refine wk_auto ?_;refine Sel4.mk rfl rfl ?_ ?_<;>(repeat' first|exact True.intro|exact rfl|exact .inl rfl|exact .inr rfl|refine And.intro ?_ ?_|fail)))
  ·have h2:n.kind=2:=of_decide_eq_true (by assumption)
   have e1:errN n=0:=by unfold errN;rw [if_neg (by omega),if_pos h2,if_neg (by have:=of_decide_eq_false (by assumption:decide (n.wide<1)=false);have:=of_decide_eq_false (by assumption:decide (5<n.wide)=false);omega)]
   have e2:insN n=decide ((n.ins.length:Int)=1):=by unfold insN;rw [if_neg (by omega),if_neg (by omega)]
   have e3:wantN n=⟨n.kind,[],zCmd,0,n.wide,n.ins⟩:=by unfold wantN;simp [h2]
   conv=>whnf
   refine ⟨(),?_,by omega⟩
   rw [e1,e2,e3]
   exact (by (refine wk_auto ?_;refine Sel4.mk rfl rfl ?_ ?_<;>(repeat' first|exact True.intro|exact rfl|exact .inl rfl|exact .inr rfl|refine And.intro ?_ ?_|fail)))
  ·have h2:n.kind=2:=of_decide_eq_true (by assumption)
   have e1:errN n=3:=by unfold errN;rw [if_neg (by omega),if_pos h2,if_pos (.inr (of_decide_eq_true (by assumption:decide (5<n.wide)=true)))]
   have e2:insN n=decide ((n.ins.length:Int)=1):=by unfold insN;rw [if_neg (by omega),if_neg (by omega)]
   have e3:wantN n=⟨n.kind,[],zCmd,0,n.wide,n.ins⟩:=by unfold wantN;simp [h2]
   conv=>whnf
   refine ⟨(),?_,by omega⟩
   rw [e1,e2,e3]
   exact (by (refine wk_auto ?_;refine Sel4.mk rfl rfl ?_ ?_<;>(repeat' first|exact True.intro|exact rfl|exact .inl rfl|exact .inr rfl|refine And.intro ?_ ?_|fail)))
  ·have h2:n.kind=2:=of_decide_eq_true (by assumption)
   have e1:errN n=3:=by unfold errN;rw [if_neg (by omega),if_pos h2,if_pos (.inl (of_decide_eq_true (by assumption:decide (n.wide<1)=true)))]
   have e2:insN n=decide ((n.ins.length:Int)=1):=by unfold insN;rw [if_neg (by omega),if_neg (by omega)]
   have e3:wantN n=⟨n.kind,[],zCmd,0,n.wide,n.ins⟩:=by unfold wantN;simp [h2]
   conv=>whnf
   refine ⟨(),?_,by omega⟩
   rw [e1,e2,e3]
   exact (by (refine wk_auto ?_;refine Sel4.mk rfl rfl ?_ ?_<;>(repeat' first|exact True.intro|exact rfl|exact .inl rfl|exact .inr rfl|refine And.intro ?_ ?_|fail)))
  ·have h5:n.kind=5:=of_decide_eq_true (by assumption)
   have e1:errN n=if isWord n.file=true then 0 else 1:=by unfold errN;rw [if_pos (.inr h5)]
   have e2:insN n=((decide ((n.ins.length:Int)=1) == decide (n.kind=5)) && decide ((n.ins.length:Int)<2)):=by unfold insN;rw [if_pos (.inr h5)]
   have e3:wantN n=⟨n.kind,n.file,zCmd,0,0,n.ins⟩:=by unfold wantN;simp [h5]
   conv=>whnf
   refine ⟨n.file,rfl,?_⟩
   repeat' first|(refine fun (b:Bool) hb=>?_;cases b<;>first|exact absurd hb (by decide)|exact nfl hb|exact nfr hb|skip)|(refine fun (hl:_≤MAXL)=>?_)|fail
   all_goals (conv=>whnf)
   all_goals refine ⟨(),?_,by omega⟩
   all_goals rw [e1,e2,e3]
   all_goals first|rw [(by assumption:(decide ((n.ins.length:Int)=1) == decide (n.kind=5))=false),Bool.false_and]|rw [(by assumption:(decide ((n.ins.length:Int)=1) == decide (n.kind=5))=true),Bool.true_and]
   all_goals first|rw [if_neg (by simpa using (by assumption:(!isWord n.file)=true))]|rw [if_pos (by simpa using (by assumption:(!isWord n.file)=false))]
   all_goals exact (by (refine wk_auto ?_;refine Sel4.mk rfl rfl ?_ ?_<;>(repeat' first|exact True.intro|exact rfl|exact .inl rfl|exact .inr rfl|refine And.intro ?_ ?_|fail)))
  ·have h5:n.kind=1:=of_decide_eq_true (by assumption)
   have e1:errN n=if isWord n.file=true then 0 else 1:=by unfold errN;rw [if_pos (.inl h5)]
   have e2:insN n=((decide ((n.ins.length:Int)=1) == decide (n.kind=5)) && decide ((n.ins.length:Int)<2)):=by unfold insN;rw [if_pos (.inl h5)]
   have e3:wantN n=⟨n.kind,n.file,zCmd,0,0,n.ins⟩:=by unfold wantN;simp [h5]
   conv=>whnf
   refine ⟨n.file,rfl,?_⟩
   repeat' first|(refine fun (b:Bool) hb=>?_;cases b<;>first|exact absurd hb (by decide)|exact nfl hb|exact nfr hb|skip)|(refine fun (hl:_≤MAXL)=>?_)|fail
   all_goals (conv=>whnf)
   all_goals refine ⟨(),?_,by omega⟩
   all_goals rw [e1,e2,e3]
   all_goals first|rw [(by assumption:(decide ((n.ins.length:Int)=1) == decide (n.kind=5))=false),Bool.false_and]|rw [(by assumption:(decide ((n.ins.length:Int)=1) == decide (n.kind=5))=true),Bool.true_and]
   all_goals first|rw [if_neg (by simpa using (by assumption:(!isWord n.file)=true))]|rw [if_pos (by simpa using (by assumption:(!isWord n.file)=false))]
   all_goals exact (by (refine wk_auto ?_;refine Sel4.mk rfl rfl ?_ ?_<;>(repeat' first|exact True.intro|exact rfl|exact .inl rfl|exact .inr rfl|refine And.intro ?_ ?_|fail)))
 ·have hce:checkN n=if errN n≠0 then errN n else if insN n=true∧n=wantN n then 0 else 4:=by unfold checkN;rw [if_neg (by omega)]
  rw [hce] at hK
  have hw1:(wantN n).kind=n.kind:=rfl
  have hw2:(wantN n).ins=n.ins:=rfl
  repeat' first|(refine fun (b:Bool) hb=>?_;cases b<;>first|exact absurd hb (by decide)|exact nfl hb|exact nfr hb|skip)|fail
  all_goals conv=>whnf
  all_goals refine hK _ (congrArg (V.int .i64) ?_)
  all_goals first|(rw [if_neg (by simpa using (by assumption:(!decide (errN n=0))=false))])|(rw [if_pos (by simpa using (by assumption:(!decide (errN n=0))=true))])
  ·have f1:insN n=true:=by simpa using (by assumption:(!insN n)=false)
   have f2:n.file=(wantN n).file:=by simpa using (by assumption:(!decide (n.file=(wantN n).file))=false)
   have f3:n.how=(wantN n).how:=by simpa using (by assumption:(!decide (n.how=(wantN n).how))=false)
   have f4:n.wide=(wantN n).wide:=by simpa using (by assumption:(!decide (n.wide=(wantN n).wide))=false)
   have f5:n.c=(wantN n).c:=by
    have h:=(by assumption:(!(decide (n.c.kind=(wantN n).c.kind) && (decide (n.c.word=(wantN n).c.word) && (decide (n.c.n=(wantN n).c.n) && true))))=false)
    have h:n.c.kind=(wantN n).c.kind∧n.c.word=(wantN n).c.word∧n.c.n=(wantN n).c.n:=by simpa using h
    exact cmd_ext h.1 h.2.1 h.2.2
   rw [if_pos ⟨f1,node_ext rfl f2 f5 f3 f4 rfl⟩]
  ·have f4:¬ n.wide=(wantN n).wide:=by simpa using (by assumption:(!decide (n.wide=(wantN n).wide))=true)
   rw [if_neg (fun x=>f4 (congrArg Gp.Node.wide x.2))]
  ·have f4:¬ n.how=(wantN n).how:=by simpa using (by assumption:(!decide (n.how=(wantN n).how))=true)
   rw [if_neg (fun x=>f4 (congrArg Gp.Node.how x.2))]
  ·have h:=(by assumption:(!(decide (n.c.kind=(wantN n).c.kind) && (decide (n.c.word=(wantN n).c.word) && (decide (n.c.n=(wantN n).c.n) && true))))=true)
   have f4:¬ n.c=(wantN n).c:=fun e=>by
    rw [←e] at h
    simp at h
   rw [if_neg (fun x=>f4 (congrArg Gp.Node.c x.2))]
  ·have f4:¬ n.file=(wantN n).file:=by simpa using (by assumption:(!decide (n.file=(wantN n).file))=true)
   rw [if_neg (fun x=>f4 (congrArg Gp.Node.file x.2))]
  ·have f4:¬ insN n=true:=by simpa using (by assumption:(!insN n)=true)
   rw [if_neg (fun x=>f4 x.1)]
end Gv
namespace Gv
variable [Glob] [Laid]
theorem checkG_ca:callable Tryz.prog 78=true:=by kernel_rfl
def checkG_S:Spec:=fun args K=>∃ N:List Gp.Node,args=[.agg [.sl nodeV N]]∧K (.int .i64 (checkG N))
noncomputable def checkG_lib:List (Nat × Spec):=[(143,checkN_S),(82,outs_S)]
noncomputable def checkG_fns:List (Nat × FnI):=[]
noncomputable def checkG_prims:List (Nat × PSpec):=[]
theorem checkG_E:EnvOK ⟨Tryz.prog,tys,checkG_lib,checkG_fns,checkG_prims,[(173,[true,true])]⟩:=env_ok mixed0 tys0 (.cons checkN_ca checkN_ok (.cons outs_ca outs_ok .nil)) .nil .nil (by kernel_rfl)
set_option maxHeartbeats 80000000 in
theorem checkG_ok:Pure Tryz.prog 78 checkG_S:=by
 refine pure_by checkG_E 6 (fi:={fn:=Tryz.f78,hooks:=[16],draws:=[(14,[0,1,3,7,15,31,15,127,255,511,1023,2047,4095,8191,16383,32767,65535,32767,163839,32767,557055,1998847,4095999,8290303,16777215,33554431])]}) ⟨Tryz.func78,by kernel_rfl,by kernel_rfl⟩ ?_
 rintro _ K ⟨N,rfl,hK⟩
 replace hK:∀ r,r=.int .i64 (checkG N)→K r:=fun r h=>h ▸ hK
 unfold checkG at hK
 repeat' first|(refine fun (b:Bool) hb=>?_;cases b<;>first|exact absurd hb (by decide)|exact nfl hb|exact nfr hb|skip)|(refine fun (hl:_≤MAXL)=>?_)|refine ⟨Bool,V.lit,?_⟩|fail
 rotate_left
 ·have h:(60:Int)<(N.length:Int):=of_decide_eq_true (by assumption)
  rw [if_pos (by omega)] at hK
  exact hK _ rfl
 have h60:¬ (60:Int)<(N.length:Int):=of_decide_eq_false (by assumption)
 rw [if_neg (by omega)] at hK
 conv=>whnf
 refine loop_live [1,3,16,17] (σ:=Nat × Int × Ents) (fun s=>[(18,.int .i64 s.1),(4,.int .i64 s.2.1)]) (fun s=>[.box [.sl nodeV N],.mp 173 4 .pair V.lit s.2.2]) (fun s=>s.1≤N.length∧nodesGo N s.1 (N.drop s.1) s.2.1 s.2.2=nodesGo N 0 N 0 []∧0≤s.2.1∧s.2.1≤5*s.1) (fun s=>N.length-s.1) (0,0,[]) ?_
 conv=>whnf
 refine ⟨(by (refine wk_auto ?_;refine Sel4.mk rfl rfl ?_ ?_<;>(repeat' first|exact True.intro|exact rfl|exact .inl rfl|exact .inr rfl|refine And.intro ?_ ?_|fail))),⟨Nat.zero_le _,rfl,by decide,by decide⟩,fun s hs=>?_⟩
 obtain ⟨i,o,u⟩:=s
 obtain ⟨hi,hgo,ho1,ho2⟩:=hs
 dsimp only at hi hgo ho1 ho2
 repeat' first|(refine fun (b:Bool) hb=>?_;cases b<;>first|exact absurd hb (by decide)|exact nfl hb|exact nfr hb|skip)|(refine fun (hl:_≤MAXL)=>?_)|refine ⟨_,rfl,?_,rfl,?_⟩|fail
 ·have hge:¬ (i:Int)<(N.length:Int):=of_decide_eq_false (by assumption)
  have h0:¬ (N.length:Int)=0:=of_decide_eq_false (by assumption)
  have h1:(u.length:Int)=o:=by simpa using (by assumption:(!decide ((u.length:Int)=o))=false)
  conv=>whnf
  refine hK _ (congrArg (V.int .i64) ?_)
  rw [←hgo,List.drop_eq_nil_of_le (by omega),nodesGo,if_neg (by omega)]
 ·have hge:¬ (i:Int)<(N.length:Int):=of_decide_eq_false (by assumption)
  have h1:¬ (u.length:Int)=o:=by simpa using (by assumption:(!decide ((u.length:Int)=o))=true)
  conv=>whnf
  refine hK _ (congrArg (V.int .i64) ?_)
  rw [←hgo,List.drop_eq_nil_of_le (by omega),nodesGo,if_pos (.inr h1)]
 ·have hge:¬ (i:Int)<(N.length:Int):=of_decide_eq_false (by assumption)
  have h0:(N.length:Int)=0:=of_decide_eq_true (by assumption)
  conv=>whnf
  refine hK _ (congrArg (V.int .i64) ?_)
  rw [←hgo,List.drop_eq_nil_of_le (by omega),nodesGo,if_pos (.inl (by omega))]
 ·have h:(i:Int)<(N.length:Int):=of_decide_eq_true (by assumption)
  show i<N.length
  omega
 have hlt:i<N.length:=by
  have h:(i:Int)<(N.length:Int):=of_decide_eq_true (by assumption)
  omega
 rw [nodesGo_at hlt] at hgo
 conv=>whnf
 refine ⟨N[i],rfl,?_⟩
 repeat' first|(refine fun (b:Bool) hb=>?_;cases b<;>first|exact absurd hb (by decide)|exact nfl hb|exact nfr hb|skip)|(refine fun (hl:_≤MAXL)=>?_)|fail
 rotate_left
 ·have hcn:¬ checkN N[i]=0:=by simpa using (by assumption:(!decide (checkN N[i]=0))=true)
  rw [if_pos hcn] at hgo
  conv=>whnf
  exact hK _ (congrArg (V.int .i64) hgo)
 have hcn:checkN N[i]=0:=by simpa using (by assumption:(!decide (checkN N[i]=0))=false)
 rw [if_neg (fun h=>h hcn)] at hgo
 obtain ⟨ho3,ho4⟩:=outsN_bnd hcn
 conv=>whnf
 refine loop_live [1,3,4,5,6,16,17,18,29,30] (σ:=Nat × Ents) (fun s=>[(31,.int .i64 s.1)]) (fun s=>[.box [.sl nodeV N],.mp 173 4 .pair V.lit s.2,.box (nodeV N[i]).cells]) (fun s=>s.1≤N[i].ins.length∧portsGo N i (N[i].ins.drop s.1) s.2=portsGo N i N[i].ins u) (fun s=>N[i].ins.length-s.1) (0,u) ?_
 conv=>whnf
 refine ⟨(by (refine wk_auto ?_;refine Sel4.mk rfl rfl ?_ ?_<;>(repeat' first|exact True.intro|exact rfl|exact .inl rfl|exact .inr rfl|refine And.intro ?_ ?_|fail))),⟨Nat.zero_le _,rfl⟩,fun s hs=>?_⟩
 obtain ⟨j,v⟩:=s
 obtain ⟨hj,hpg⟩:=hs
 dsimp only at hj hpg
 repeat' first|(refine fun (b:Bool) hb=>?_;cases b<;>first|exact absurd hb (by decide)|exact nfl hb|exact nfr hb|skip)|(refine fun (hl:_≤MAXL)=>?_)|refine And.intro (a:=I64 _) ?_ ?_|refine ⟨_,rfl,?_,rfl,?_⟩|fail
 ·unfold I64;omega
 ·have hge:¬ (j:Int)<(N[i].ins.length:Int):=of_decide_eq_false (by assumption)
  have h5:=(by assumption:(!decide (N[i].kind=5) == decide ((i:Int)=(N.length:Int)-1))=false)
  have h6:decide (N[i].kind=5)=decide ((i:Int)=(N.length:Int)-1):=by simpa using h5
  rw [List.drop_eq_nil_of_le (by omega),portsGo] at hpg
  rw [←hpg,if_neg (fun h=>h rfl),if_neg (fun h=>h h6)] at hgo
  conv=>whnf
  refine ⟨N[i],rfl,?_⟩
  repeat' first|refine And.intro (a:=I64 _) ?_ ?_|fail
  ·show I64 (o+outsN N[i])
   unfold I64;omega
  ·show I64 ((i:Int)+1)
   unfold I64;omega
  conv=>whnf
  exact ⟨(i+1,o+outsN N[i],v),(by (refine wk_auto ?_;refine Sel4.mk rfl rfl ?_ ?_<;>(repeat' first|exact True.intro|exact rfl|exact .inl rfl|exact .inr rfl|refine And.intro ?_ ?_|fail))),⟨hlt,hgo,by dsimp only;omega,by dsimp only;omega⟩,by show N.length-(i+1)<N.length-i;omega⟩
 ·have hge:¬ (j:Int)<(N[i].ins.length:Int):=of_decide_eq_false (by assumption)
  have h5:=(by assumption:(!decide (N[i].kind=5) == decide ((i:Int)=(N.length:Int)-1))=true)
  have h6:¬ decide (N[i].kind=5)=decide ((i:Int)=(N.length:Int)-1):=by simpa using h5
  rw [List.drop_eq_nil_of_le (by omega),portsGo] at hpg
  rw [←hpg,if_neg (fun h=>h rfl),if_pos h6] at hgo
  conv=>whnf
  refine hK _ (congrArg (V.int .i64) ?_)
  exact hgo
 ·have h:(j:Int)<(N[i].ins.length:Int):=of_decide_eq_true (by assumption)
  show j<N[i].ins.length
  omega
 have hjl:j<N[i].ins.length:=by
  have h:(j:Int)<(N[i].ins.length:Int):=of_decide_eq_true (by assumption)
  omega
 rw [portsGo_at hjl] at hpg
 obtain ⟨p,hp⟩:∃ p,N[i].ins[j]=p:=⟨_,rfl⟩
 rw [hp] at hpg
 conv=>whnf
 refine join_live [1,3,4,5,6,9,16,17,18,29,30,31] (σ:=Unit) (fun _=>[]) (fun _=>[.box [.sl nodeV N],.mp 173 4 .pair V.lit v,.box (nodeV N[i]).cells,.box [.int .i64 p.node,.int .i64 p.out]]) (fun _=>¬ (p.node<0∨(i:Int)≤p.node∨p.out<0∨outsN (N.getD p.node.toNat ⟨0,[],zCmd,0,0,[]⟩)≤p.out)) ?_
 conv=>whnf
 refine ⟨?_,fun _ hok=>?_⟩
 ·rw [hp]
  repeat' first|exact True.intro|(refine fun (b:Bool) hb=>?_;cases b<;>first|exact absurd hb (by decide)|exact nfl hb|exact nfr hb|skip)|refine ⟨_,⟨rfl,rfl⟩,?_⟩|refine And.intro (a:=chkPast _ _ _ _ _ _ _ _) ?_ ?_|fail
  ·have h1:¬ p.node<0:=of_decide_eq_false (by assumption)
   have h2:¬ (i:Int)≤p.node:=of_decide_eq_false (by assumption)
   have h3:¬ p.out<0:=of_decide_eq_false (by assumption)
   obtain ⟨k,hk⟩:∃ k:Nat,p.node=k:=⟨p.node.toNat,by omega⟩
   have hkN:k<N.length:=by omega
   have hgk:N.getD p.node.toNat ⟨0,[],zCmd,0,0,[]⟩=N[k]:=by
    rw [hk,Int.toNat_natCast,List.getD_eq_getElem?_getD,List.getElem?_eq_getElem hkN]
    rfl
   conv=>whnf
   refine ⟨_,⟨k,hk,hkN,rfl,rfl,rfl⟩,?_⟩
   repeat' first|refine ⟨_,⟨rfl,rfl⟩,?_⟩|fail
   apply Exists.intro
   apply And.intro
   ·refine ⟨N[k],rfl,?_⟩
    exact ⟨rfl,rfl⟩
   repeat' first|(refine fun (b:Bool) hb=>?_;cases b<;>first|exact absurd hb (by decide)|exact nfl hb|exact nfr hb|skip)|refine ⟨_,⟨rfl,rfl⟩,?_⟩|fail
   ·have h4:¬ outsN N[k]≤p.out:=of_decide_eq_false (by assumption)
    conv=>whnf
    exact ⟨(),(by (refine wk_auto ?_;refine Sel4.mk rfl rfl ?_ ?_<;>(repeat' first|exact True.intro|exact rfl|exact .inl rfl|exact .inr rfl|refine And.intro ?_ ?_|fail))),by rw [hgk];omega⟩
   ·have h4:outsN N[k]≤p.out:=of_decide_eq_true (by assumption)
    rw [hgk,if_pos (by omega)] at hpg
    rw [←hpg,if_pos (show (5:Int)≠0 by decide)] at hgo
    conv=>whnf
    refine hK _ (congrArg (V.int .i64) ?_)
    exact hgo
  ·have h4:p.out<0:=of_decide_eq_true (by assumption)
   rw [if_pos (by omega)] at hpg
   rw [←hpg,if_pos (show (5:Int)≠0 by decide)] at hgo
   conv=>whnf
   refine hK _ (congrArg (V.int .i64) ?_)
   exact hgo
  ·have h4:(i:Int)≤p.node:=of_decide_eq_true (by assumption)
   rw [if_pos (by omega)] at hpg
   rw [←hpg,if_pos (show (5:Int)≠0 by decide)] at hgo
   conv=>whnf
   refine hK _ (congrArg (V.int .i64) ?_)
   exact hgo
  ·have h4:p.node<0:=of_decide_eq_true (by assumption)
   rw [if_pos (by omega)] at hpg
   rw [←hpg,if_pos (show (5:Int)≠0 by decide)] at hgo
   conv=>whnf
   refine hK _ (congrArg (V.int .i64) ?_)
   exact hgo
 ·rw [if_neg hok] at hpg
  obtain ⟨q,hq⟩:∃ q,mget false v [p.node,p.out]=q:=⟨_,rfl⟩
  rw [hq] at hpg
  conv=>whnf
  refine ⟨false,rfl,?_⟩
  conv =>
   arg 1
   rw [hq]
  cases q
  ·rw [if_neg (by decide)] at hpg
   repeat' first|refine And.intro (a:=I64 _) ?_ ?_|refine ⟨_,rfl,?_,rfl,?_⟩|fail
   ·rfl
   ·have hm:=(by assumption:N[i].ins.length≤MAXL)
    unfold MAXL at hm
    unfold I64;(try dsimp only);omega
   conv=>whnf
   exact ⟨(j+1,mput v [p.node,p.out] true),(by (refine wk_auto ?_;refine Sel4.mk rfl rfl ?_ ?_<;>(repeat' first|exact True.intro|exact rfl|exact .inl rfl|exact .inr rfl|refine And.intro ?_ ?_|fail))),⟨hjl,hpg⟩,by show N[i].ins.length-(j+1)<N[i].ins.length-j;omega⟩
  ·rw [if_pos rfl] at hpg
   rw [←hpg,if_pos (show (6:Int)≠0 by decide)] at hgo
   conv=>whnf
   refine hK _ (congrArg (V.int .i64) ?_)
   exact hgo
end Gv
namespace Gv
variable [Glob] [Laid]
def machV (m:MachS):V:=.agg [.sl nodeV m.g,.sl fileV m.f,.sl pipeV m.pipes,.sl procV m.p,.sl byteV m.sunk]
theorem checkMX_ca:callable Tryz.prog 150=true:=by kernel_rfl
def checkMX_S:Spec:=fun args K=>∃ (m:MachS),args=[machV m]∧K (.int .i64 (checkMach m))
noncomputable def checkMX_lib:List (Nat × Spec):=[(78,checkG_S),(89,cfiles_S),(196,check_S),(195,inputsX_S),(197,checkPX_S)]
noncomputable def checkMX_fns:List (Nat × FnI):=[]
noncomputable def checkMX_prims:List (Nat × PSpec):=[]
theorem checkMX_E:EnvOK ⟨Tryz.prog,tys,checkMX_lib,checkMX_fns,checkMX_prims,[]⟩:=env_ok mixed0 tys0 (.cons checkG_ca checkG_ok (.cons cfiles_ca cfiles_ok (.cons check_ca check_ok (.cons inputsX_ca inputsX_ok (.cons checkPX_ca checkPX_ok .nil))))) .nil .nil rfl
theorem checkMX_ok:Pure Tryz.prog 150 checkMX_S:=by
 refine pure_by checkMX_E 6 (fi:={fn:=Tryz.f150,hooks:=[4,7,9],draws:=[(7,[0,1,3,0,8,24,56,127,255,511,1023,2047,511,4607,511,16895,49663,115199,258559,524287,1048575]),(19,[0,1,3,0,15,31,0,127,255])]}) ⟨Tryz.func150,by kernel_rfl,by kernel_rfl⟩ ?_
 rintro _ K ⟨m,rfl,hK⟩
 replace hK:∀ r,r=.int .i64 (checkMach m)→K r:=fun r h=>h ▸ hK
 conv=>whnf
 refine join_live [1] (σ:=Unit) (fun _=>[(1,.ptr 0 0 0)]) (fun _=>[.box (machV m).cells]) (fun _=>checkG m.g=0) ?_
 conv=>whnf
 refine ⟨?_,fun _ hg=>?_⟩
 ·conv=>whnf
  skip
  refine ⟨m.g,rfl,?_⟩
  repeat' first|(refine fun (b:Bool) hb=>?_;cases b<;>first|exact absurd hb (by decide)|exact nfl hb|exact nfr hb|skip)|fail
  ·exact ⟨(),(by (refine wk_auto ?_;refine Sel4.mk rfl rfl ?_ ?_<;>(repeat' first|exact True.intro|exact rfl|exact .inl rfl|exact .inr rfl|refine And.intro ?_ ?_|fail))),by simpa using ‹(!decide (checkG m.g=0))=false›⟩
  ·have h:checkG m.g≠0:=by simpa using ‹(!decide (checkG m.g=0))=true›
   conv=>whnf
   skip
   refine hK _ ?_
   unfold checkMach
   rw [if_pos h]
 conv=>whnf
 refine join_live [1] (σ:=Unit) (fun _=>[]) (fun _=>[.box (machV m).cells]) (fun _=>checkFiles m.f=0) ?_
 conv=>whnf
 refine ⟨?_,fun _ hf=>?_⟩
 ·conv=>whnf
  skip
  refine ⟨m.f,rfl,?_⟩
  repeat' first|(refine fun (b:Bool) hb=>?_;cases b<;>first|exact absurd hb (by decide)|exact nfl hb|exact nfr hb|skip)|fail
  ·exact ⟨(),(by (refine wk_auto ?_;refine Sel4.mk rfl rfl ?_ ?_<;>(repeat' first|exact True.intro|exact rfl|exact .inl rfl|exact .inr rfl|refine And.intro ?_ ?_|fail))),by simpa using ‹(!decide (checkFiles m.f=0))=false›⟩
  ·have h:checkFiles m.f≠0:=by simpa using ‹(!decide (checkFiles m.f=0))=true›
   conv=>whnf
   skip
   refine hK _ ?_
   unfold checkMach
   rw [if_neg (by rw [hg];decide),if_pos h]
 have hgf:=gf_of hg
 have hin:=insB_end m.g
 have c4:(m.p.length≠m.g.length∨m.pipes.length≠(allIns m.g).length)→V.int .i64 4=V.int .i64 (checkMach m):=fun h=>by unfold checkMach;rw [if_neg (by rw [hg];decide),if_neg (by rw [hf];decide),if_pos h]
 conv=>whnf
 refine join_live [1] (σ:=Unit) (fun _=>[]) (fun _=>[.box (machV m).cells]) (fun _=>¬ (m.p.length≠m.g.length∨m.pipes.length≠(allIns m.g).length)) ?_
 conv=>whnf
 refine ⟨?_,fun _ hl=>?_⟩
 ·conv=>whnf
  repeat' first|exact True.intro|(refine fun (b:Bool) hb=>?_;cases b<;>first|exact absurd hb (by decide)|exact nfl hb|exact nfr hb|skip)|refine ⟨_,⟨rfl,rfl⟩,?_⟩|refine ⟨_,(fun _=>⟨rfl,rfl⟩),?_⟩|refine And.intro (a:=chkPast _ _ _ _ _ _ _ _) ?_ ?_|fail
  ·conv=>whnf
   skip
   apply Exists.intro
   apply And.intro
   ·refine ⟨m.g,m.g.length,rfl,⟨Nat.le_refl _,allIns_small hg⟩,?_⟩
    exact ⟨rfl,rfl⟩
   rw [hin]
   conv=>whnf
   repeat' first|(refine fun (b:Bool) hb=>?_;cases b<;>first|exact absurd hb (by decide)|exact nfl hb|exact nfr hb|skip)|refine ⟨_,⟨rfl,rfl⟩,?_⟩|fail
   all_goals (try (conv=>whnf))
   all_goals (skip)
   all_goals first
    | exact hK _ (c4 (by grind))
    | exact ⟨(),(by (refine wk_auto ?_;refine Sel4.mk rfl rfl ?_ ?_<;>(repeat' first|exact True.intro|exact rfl|exact .inl rfl|exact .inr rfl|refine And.intro ?_ ?_|fail))),by grind⟩
  ·conv=>whnf
   skip
   all_goals (try (conv=>whnf))
   all_goals (skip)
   all_goals exact hK _ (c4 (by grind))
 have hbase:checkMach m=if pipesBad m.pipes≠0 then pipesBad m.pipes else if procsBad m.g m.p≠0 then procsBad m.g m.p else if 40000<m.sunk.length then 2 else 0:=by
  unfold checkMach
  rw [if_neg (by rw [hg];decide),if_neg (by rw [hf];decide),if_neg hl]
 conv=>whnf
 repeat' first|(refine fun (hl:_≤MAXL)=>?_)|fail
 conv=>whnf
 refine loop_live [1,45,46] (σ:=Nat) (fun k=>[(47,.int .i64 k)]) (fun _=>[.box (machV m).cells]) (fun k=>k≤m.pipes.length∧pipesBad (m.pipes.drop k)=pipesBad m.pipes) (fun k=>m.pipes.length-k) 0 ?_
 conv=>whnf
 refine ⟨(by (refine wk_auto ?_;refine Sel4.mk rfl rfl ?_ ?_<;>(repeat' first|exact True.intro|exact rfl|exact .inl rfl|exact .inr rfl|refine And.intro ?_ ?_|fail))),⟨Nat.zero_le _,rfl⟩,fun k hk=>?_⟩
 obtain ⟨hk,hno⟩:=hk
 repeat' first|(refine fun (b:Bool) hb=>?_;cases b<;>first|exact absurd hb (by decide)|exact nfl hb|exact nfr hb|skip)|(refine fun (hl:_≤MAXL)=>?_)|refine ⟨_,rfl,?_,rfl,?_⟩|fail
 rotate_left
 ·have h:=of_decide_eq_true (by assumption:decide ((k:Int)<(m.pipes.length:Int))=true)
  omega
 ·have hk2:k<m.pipes.length := by
   have h:=of_decide_eq_true (by assumption:decide ((k:Int)<(m.pipes.length:Int))=true)
   omega
  have hst:pipesBad (m.pipes.drop k)=if checkPipe m.pipes[k]≠0 then checkPipe m.pipes[k] else pipesBad (m.pipes.drop (k+1)):=by
   rw [List.drop_eq_getElem_cons hk2];rfl
  rw [hno] at hst
  conv=>whnf
  skip
  refine ⟨m.pipes[k],rfl,?_⟩
  rw [check_link]
  repeat' first|(refine fun (b:Bool) hb=>?_;cases b<;>first|exact absurd hb (by decide)|exact nfl hb|exact nfr hb|skip)|refine And.intro (a:=I64 _) ?_ ?_|fail
  ·have hM:m.pipes.length≤MAXL:=by assumption
   unfold I64;unfold MAXL at hM;omega
  ·have h0:checkPipe m.pipes[k]=0:=by simpa using ‹(!decide (checkPipe m.pipes[k]=0))=false›
   rw [if_neg (by rw [h0];decide)] at hst
   exact ⟨k+1,(by (refine wk_auto ?_;refine Sel4.mk rfl rfl ?_ ?_<;>(repeat' first|exact True.intro|exact rfl|exact .inl rfl|exact .inr rfl|refine And.intro ?_ ?_|fail))),⟨hk2,hst.symm⟩,by omega⟩
  ·have h0:checkPipe m.pipes[k]≠0:=by simpa using ‹(!decide (checkPipe m.pipes[k]=0))=true›
   rw [if_pos h0] at hst
   conv=>whnf
   skip
   refine hK _ ?_
   rw [hbase,hst,if_pos h0]
 have hkl:k=m.pipes.length:=by
  have h:=of_decide_eq_false (by assumption:decide ((k:Int)<(m.pipes.length:Int))=false)
  omega
 subst hkl
 rw [List.drop_length] at hno
 have hp0:pipesBad m.pipes=0:=by rw [←hno];rfl
 rw [if_neg (by rw [hp0];decide)] at hbase
 conv=>whnf
 skip
 conv=>whnf
 refine loop_live [1,58,59] (σ:=Nat) (fun k=>[(60,.int .i64 k)]) (fun _=>[.box (machV m).cells]) (fun k=>k≤m.p.length∧procsBad (m.g.drop k) (m.p.drop k)=procsBad m.g m.p) (fun k=>m.p.length-k) 0 ?_
 conv=>whnf
 refine ⟨(by (refine wk_auto ?_;refine Sel4.mk rfl rfl ?_ ?_<;>(repeat' first|exact True.intro|exact rfl|exact .inl rfl|exact .inr rfl|refine And.intro ?_ ?_|fail))),⟨Nat.zero_le _,rfl⟩,fun k hk=>?_⟩
 obtain ⟨hk,hno⟩:=hk
 have hpl:m.p.length=m.g.length:=by omega
 have hend:k=m.p.length→procsBad m.g m.p=0:=fun e=>by
  rw [←hno,e,List.drop_length]
  cases m.g.drop m.p.length<;>rfl
 have hst:∀ (hk2:k<m.p.length) (hk3:k<m.g.length),procsBad m.g m.p=if checkProc m.g[k] m.p[k]≠0 then checkProc m.g[k] m.p[k] else procsBad (m.g.drop (k+1)) (m.p.drop (k+1)):=fun hk2 hk3=>by
  rw [←hno,List.drop_eq_getElem_cons hk2,List.drop_eq_getElem_cons hk3];rfl
 repeat' first|exact True.intro|(refine fun (b:Bool) hb=>?_;cases b<;>first|exact absurd hb (by decide)|exact nfl hb|exact nfr hb|skip)|(refine fun (hl:_≤MAXL)=>?_)|refine ⟨_,⟨rfl,rfl⟩,?_⟩|refine And.intro (a:=chkPast _ _ _ _ _ _ _ _) ?_ ?_|refine ⟨_,⟨_,rfl,?_,rfl,rfl,rfl⟩,?_⟩|refine ⟨_,rfl,?_,rfl,?_⟩|fail
 ·have hkl := hend (by
   have h:=of_decide_eq_false (by assumption:decide ((k:Int)<(m.p.length:Int))=false)
   omega)
  conv=>whnf
  skip
  refine hK _ ?_
  rw [hbase,if_neg (by rw [hkl];decide),if_neg]
  have h:=of_decide_eq_false (by assumption:decide (40000<(m.sunk.length:Int))=false)
  omega
 ·have hkl := hend (by
   have h:=of_decide_eq_false (by assumption:decide ((k:Int)<(m.p.length:Int))=false)
   omega)
  conv=>whnf
  skip
  refine hK _ ?_
  rw [hbase,if_neg (by rw [hkl];decide),if_pos]
  have h:=of_decide_eq_true (by assumption:decide (40000<(m.sunk.length:Int))=true)
  omega
 all_goals
  have hk2:k<m.p.length:=by
   have h:=of_decide_eq_true (by assumption:decide ((k:Int)<(m.p.length:Int))=true)
   omega
 ·exact hk2
 ·omega
 have hk3:k<m.g.length:=by omega
 have hst:=hst hk2 hk3
 have hcn:=hgf.node k hk3
 rw [ndG_at hk3] at hcn
 conv=>whnf
 skip
 apply Exists.intro
 apply And.intro
 ·refine ⟨m.g[k],m.p[k],rfl,hcn,?_⟩
  exact ⟨rfl,rfl⟩
 conv=>whnf
 repeat' first|(refine fun (b:Bool) hb=>?_;cases b<;>first|exact absurd hb (by decide)|exact nfl hb|exact nfr hb|skip)|refine And.intro (a:=I64 _) ?_ ?_|refine ⟨_,⟨rfl,rfl⟩,?_⟩|fail
 ·have hM:m.p.length≤MAXL:=by assumption
  unfold I64;unfold MAXL at hM;omega
 ·have h0:checkProc m.g[k] m.p[k]=0:=by simpa using ‹(!decide (checkProc m.g[k] m.p[k]=0))=false›
  rw [if_neg (by rw [h0];decide)] at hst
  exact ⟨k+1,(by (refine wk_auto ?_;refine Sel4.mk rfl rfl ?_ ?_<;>(repeat' first|exact True.intro|exact rfl|exact .inl rfl|exact .inr rfl|refine And.intro ?_ ?_|fail))),⟨hk2,hst.symm⟩,by omega⟩
 ·have h0:checkProc m.g[k] m.p[k]≠0:=by simpa using ‹(!decide (checkProc m.g[k] m.p[k]=0))=true›
  rw [if_pos h0] at hst
  conv=>whnf
  skip
  refine hK _ ?_
  rw [hbase,hst,if_pos h0]
end Gv
namespace Gv
variable [Glob] [Laid]
theorem clonePo_ca:callable Tryz.prog 194=true:=by kernel_rfl
def clonePo_S:Spec:=fun args K=>∃ a:List Port,args=[.sl portV a]∧a.length≤1000000∧K (.sl portV a)
noncomputable def clonePo_lib:List (Nat × Spec):=[]
noncomputable def clonePo_fns:List (Nat × FnI):=[]
noncomputable def clonePo_prims:List (Nat × PSpec):=[]
theorem clonePo_E:EnvOK ⟨Tryz.prog,tys,clonePo_lib,clonePo_fns,clonePo_prims,[]⟩:=env_ok mixed0 tys0 .nil .nil .nil rfl
theorem clonePo_ok:Pure Tryz.prog 194 clonePo_S:=by
 refine pure_by clonePo_E 6 (fi:={fn:=Tryz.f194,hooks:=[],draws:=[]}) ⟨Tryz.func194,by kernel_rfl,by kernel_rfl⟩ ?_
 rintro _ K ⟨a,rfl,hx,hK⟩
 replace hK:∀ r,r=.sl portV a→K r:=fun r h=>h ▸ hK
 repeat' first|refine ⟨_,_,_,LeL.refl _,?_⟩|(refine fun (b:Bool) hb=>?_;cases b<;>first|exact absurd hb (by decide)|exact nfl hb|exact nfr hb|skip)|refine And.intro (a:=_≤140737488355328) ?_ ?_|refine ⟨(fun _=>rfl),?_⟩|refine ⟨Port,portV,?_⟩|fail
 ·show (0+(a.map portV).length)*16≤140737488355328
  rw [List.length_map]
  omega
 ·exact hK _ rfl
 ·have e:true=true→a=[]:=by assumption
  have e:=e rfl
  subst e
  exact hK _ rfl
end Gv
namespace Gv
variable [Glob] [Laid]
theorem copiedX_ca:callable Tryz.prog 149=true:=by kernel_rfl
def copiedX_S:Spec:=fun args K=>∃ (l:List Gp.Node),args=[.agg [.sl nodeV l]]∧(l.length≤1000∧∀ n∈l,n.ins.length≤1000000)∧K (.agg [.sl nodeV l])
noncomputable def copiedX_lib:List (Nat × Spec):=[(194,clonePo_S)]
noncomputable def copiedX_fns:List (Nat × FnI):=[(193,{fn:=Tryz.f193,hooks:=[],draws:=[]})]
noncomputable def copiedX_prims:List (Nat × PSpec):=[]
theorem copiedX_E:EnvOK ⟨Tryz.prog,tys,copiedX_lib,copiedX_fns,copiedX_prims,[]⟩:=env_ok mixed0 tys0 (.cons clonePo_ca clonePo_ok .nil) (.cons (by kernel_rfl) ⟨Tryz.func193,by kernel_rfl,by kernel_rfl⟩ .nil) .nil rfl
theorem copiedX_ok:Pure Tryz.prog 149 copiedX_S:=by
 refine pure_by copiedX_E 6 (fi:={fn:=Tryz.f149,hooks:=[2],draws:=[(5,[0,1,0,0,8,24,63,127,255])]}) ⟨Tryz.func149,by kernel_rfl,by kernel_rfl⟩ ?_
 rintro _ K ⟨l,rfl,⟨hl0,hfb⟩,hK⟩
 replace hK:∀ r,r=.agg [.sl nodeV l]→K r:=fun r h=>h ▸ hK
 conv=>whnf
 refine join_live [1,2] (σ:=Unit) (fun _=>[(1,.ptr 0 0 0),(2,.ptr 1 0 0)]) (fun _=>[.box [.own 2],.box [.nil],.row 8 (l.map nodeV)]) (fun _=>True) ?_
 conv=>whnf
 refine ⟨?_,fun _ _=>?_⟩
 ·repeat' first|(refine fun (b:Bool) hb=>?_;cases b<;>first|exact absurd hb (by decide)|exact nfl hb|exact nfr hb|skip)|refine And.intro (a:=_≤140737488355328) ?_ ?_|refine ⟨(fun _=>rfl),?_⟩|fail
  ·show (0+(l.map nodeV).length)*96≤140737488355328
   rw [List.length_map]
   omega
  ·exact ⟨(),(by (refine wk_auto ?_;refine Sel4.mk rfl rfl ?_ ?_<;>(repeat' first|exact True.intro|exact rfl|exact .inl rfl|exact .inr rfl|refine And.intro ?_ ?_|fail))),trivial⟩
  ·have h:true=true→l=[]:=by assumption
   rw [h rfl]
   exact ⟨(),(by (refine wk_auto ?_;refine Sel4.mk rfl rfl ?_ ?_<;>(repeat' first|exact True.intro|exact rfl|exact .inl rfl|exact .inr rfl|refine And.intro ?_ ?_|fail))),trivial⟩
 conv=>whnf
 repeat' first|(refine fun (hl:_≤MAXL)=>?_)|fail
 conv=>whnf
 refine loop_live [1,2,10,11] (σ:=Nat) (fun i=>[(12,.int .i64 i)]) (fun _=>[.box [.own 2],.box [.nil],.row 8 (l.map nodeV)]) (fun i=>i≤l.length) (fun i=>l.length-i) 0 ?_
 conv=>whnf
 refine ⟨(by (refine wk_sel [some 0,some 1,some 2] rfl rfl ?_ ?_<;>(repeat' first|exact True.intro|exact rfl|exact .inl rfl|exact .inr rfl|refine And.intro ?_ ?_|fail))),Nat.zero_le _,fun i hi=>?_⟩
 repeat' first|refine ⟨_,_,_,LeL.refl _,?_⟩|(refine fun (b:Bool) hb=>?_;cases b<;>first|exact absurd hb (by decide)|exact nfl hb|exact nfr hb|skip)|refine ⟨rfl,?_⟩|fail
 ·conv=>whnf
  skip
  exact hK _ rfl
 have hlt:i<l.length:=by
  have h:=of_decide_eq_true (by assumption:decide ((i:Int)<((l.map nodeV).length:Int))=true)
  rw [List.length_map] at h
  omega
 have hg:(l.map nodeV)[i]?=some (nodeV l[i]):=by rw [List.getElem?_map,List.getElem?_eq_getElem hlt];rfl
 have hlm:i<(l.map nodeV).length:=by rw [List.length_map];exact hlt
 refine ⟨i,rfl,hlm,?_⟩
 conv=>whnf
 refine ⟨_,hg,?_⟩
 repeat' first|exact True.intro|refine ⟨_,⟨rfl,rfl⟩,?_⟩|refine And.intro (a:=chkPast _ _ _ _ _ _ _ _) ?_ ?_|fail
 conv=>whnf
 skip
 apply Exists.intro
 apply And.intro
 ·refine ⟨l[i].ins,rfl,hfb _ (List.getElem_mem hlt),?_⟩
  exact ⟨rfl,rfl⟩
 conv=>whnf
 skip
 apply Exists.intro
 apply And.intro
 ·refine ⟨rfl,i,rfl,hlm,?_⟩
  exact ⟨rfl,rfl⟩
 conv=>whnf
 refine ⟨trivial,?_⟩
 conv=>whnf
 repeat' first|refine ⟨_,⟨rfl,rfl⟩,?_⟩|fail
 apply Exists.intro
 apply Exists.intro
 apply And.intro
 ·conv=>whnf
  refine ⟨_,hg,?_⟩
  exact ⟨rfl,rfl⟩
 conv=>whnf
 repeat' first|exact True.intro|refine And.intro (a:=I64 _) ?_ ?_|refine And.intro (a:=chkPend _ _ _ _ _ _) ?_ ?_|fail
 ·have hM:(l.map nodeV).length≤MAXL:=by assumption
  rw [List.length_map] at hM
  unfold I64;unfold MAXL at hM;omega
 refine ⟨i+1,?_,hlt,by omega⟩
 refine wk_sel [some 0,some 1,some 2] rfl rfl ?_ ?_<;>(repeat' first|exact True.intro|exact rfl|exact .inl rfl|exact .inr rfl|refine And.intro ?_ ?_|fail)
 have e:(l.map nodeV).set i (nodeV l[i])=l.map nodeV:=by
  have:(l.map nodeV)[i]'hlm=nodeV l[i]:=by simp
  rw [←this,List.set_getElem_self]
 show Row.row 8 (l.map nodeV)=Row.row 8 ((l.map nodeV).set i (nodeV l[i]))
 rw [e]
end Gv
namespace Gv
variable [Glob] [Laid]
theorem copyF_ca:callable Tryz.prog 90=true:=by kernel_rfl
def copyF_S:Spec:=fun args K=>∃ (l:List FileS),args=[.sl fileV l]∧(l.length≤1000∧∀ f∈l,f.b.length≤1000000)∧K (.sl fileV l)
noncomputable def copyF_lib:List (Nat × Spec):=[(126,cloneB_S)]
noncomputable def copyF_fns:List (Nat × FnI):=[(52,{fn:=Tryz.f52,hooks:=[],draws:=[]})]
noncomputable def copyF_prims:List (Nat × PSpec):=[]
theorem copyF_E:EnvOK ⟨Tryz.prog,tys,copyF_lib,copyF_fns,copyF_prims,[]⟩:=env_ok mixed0 tys0 (.cons cloneB_ca cloneB_ok .nil) (.cons (by kernel_rfl) ⟨Tryz.func52,by kernel_rfl,by kernel_rfl⟩ .nil) .nil rfl
theorem copyF_ok:Pure Tryz.prog 90 copyF_S:=by
 refine pure_by copyF_E 6 (fi:={fn:=Tryz.f90,hooks:=[2],draws:=[]}) ⟨Tryz.func90,by kernel_rfl,by kernel_rfl⟩ ?_
 rintro _ K ⟨l,rfl,⟨hl0,hfb⟩,hK⟩
 replace hK:∀ r,r=.sl fileV l→K r:=fun r h=>h ▸ hK
 conv=>whnf
 refine join_live [] (σ:=Unit) (fun _=>[(0,.own 0)]) (fun _=>[.row 2 (l.map fileV)]) (fun _=>True) ?_
 conv=>whnf
 refine ⟨?_,fun _ _=>?_⟩
 ·repeat' first|(refine fun (b:Bool) hb=>?_;cases b<;>first|exact absurd hb (by decide)|exact nfl hb|exact nfr hb|skip)|refine And.intro (a:=_≤140737488355328) ?_ ?_|refine ⟨(fun _=>rfl),?_⟩|fail
  ·show (0+(l.map fileV).length)*40≤140737488355328
   rw [List.length_map]
   omega
  ·exact ⟨(),(by (refine wk_auto ?_;refine Sel4.mk rfl rfl ?_ ?_<;>(repeat' first|exact True.intro|exact rfl|exact .inl rfl|exact .inr rfl|refine And.intro ?_ ?_|fail))),trivial⟩
  ·have h:true=true→l=[]:=by assumption
   rw [h rfl]
   exact ⟨(),(by (refine wk_auto ?_;refine Sel4.mk rfl rfl ?_ ?_<;>(repeat' first|exact True.intro|exact rfl|exact .inl rfl|exact .inr rfl|refine And.intro ?_ ?_|fail))),trivial⟩
 repeat' first|(refine fun (hl:_≤MAXL)=>?_)|fail
 conv=>whnf
 refine loop_live [0,7,8] (σ:=Nat) (fun i=>[(9,.int .i64 i)]) (fun i=>[.row 2 (l.map fileV)]) (fun i=>i≤l.length) (fun i=>l.length-i) 0 ?_
 conv=>whnf
 refine ⟨(by (refine wk_auto ?_;refine Sel4.mk rfl rfl ?_ ?_<;>(repeat' first|exact True.intro|exact rfl|exact .inl rfl|exact .inr rfl|refine And.intro ?_ ?_|fail))),Nat.zero_le _,fun i hi=>?_⟩
 repeat' first|refine ⟨_,_,_,LeL.refl _,?_⟩|(refine fun (b:Bool) hb=>?_;cases b<;>first|exact absurd hb (by decide)|exact nfl hb|exact nfr hb|skip)|refine ⟨rfl,?_⟩|fail
 ·conv=>whnf
  exact hK _ rfl
 have hlt:i<l.length:=by
  have h:=of_decide_eq_true (by assumption:decide ((i:Int)<((l.map fileV).length:Int))=true)
  rw [List.length_map] at h
  omega
 have hg:(l.map fileV)[i]?=some (fileV l[i]):=by rw [List.getElem?_map,List.getElem?_eq_getElem hlt];rfl
 have hlm:i<(l.map fileV).length:=by rw [List.length_map];exact hlt
 refine ⟨i,rfl,hlm,?_⟩
 conv=>whnf
 refine ⟨_,hg,?_⟩
 repeat' first|refine ⟨_,rfl,?_,rfl,?_⟩|fail
 ·exact hfb _ (List.getElem_mem hlt)
 refine ⟨i,rfl,hlm,?_⟩
 conv=>whnf
 refine ⟨_,hg,?_⟩
 repeat' first|refine And.intro (a:=I64 _) ?_ ?_|fail
 ·have hl1:(l.map fileV).length≤MAXL:=by assumption
  unfold I64;omega
 refine ⟨i+1,?_,hlt,by omega⟩
 (refine wk_auto ?_;refine Sel4.mk rfl rfl ?_ ?_<;>(repeat' first|exact True.intro|exact rfl|exact .inl rfl|exact .inr rfl|refine And.intro ?_ ?_|fail))
 have e:(l.map fileV).set i (fileV l[i])=l.map fileV:=by
  have:(l.map fileV)[i]'hlm=fileV l[i]:=by simp
  rw [←this,List.set_getElem_self]
 show Row.row 2 (l.map fileV)=Row.row 2 ((l.map fileV).set i (fileV l[i]))
 rw [e]
end Gv
namespace Gv
variable [Glob] [Laid]
theorem clonePi0_ca:callable Tryz.prog 200=true:=by kernel_rfl
def clonePi0_P:PSpec:=fun args rows K=>∃ (l:List PipeS),args=[.sl pipeV l]∧rows=[]∧l.length≤1000000∧K (.own 1) [.dead,.row 4 (l.map pipeV)]∧(l=[]→K .nil [])
noncomputable def clonePi0_lib:List (Nat × Spec):=[]
noncomputable def clonePi0_fns:List (Nat × FnI):=[]
noncomputable def clonePi0_prims:List (Nat × PSpec):=[]
theorem clonePi0_E:EnvOK ⟨Tryz.prog,tys,clonePi0_lib,clonePi0_fns,clonePi0_prims,[]⟩:=env_ok mixed0 tys0 .nil .nil .nil rfl
theorem clonePi0_prim:PrimOK Tryz.prog 200 clonePi0_P:=by
 refine prim_by clonePi0_E 6 clonePi0_ca (fi:={fn:=Tryz.f200,hooks:=[],draws:=[]}) ⟨Tryz.func200,by kernel_rfl,by kernel_rfl⟩ ?_
 rintro args rows K ⟨l,rfl,rfl,hl,hK,hN⟩
 repeat' first|(refine fun (b:Bool) hb=>?_;cases b<;>first|exact absurd hb (by decide)|exact nfl hb|exact nfr hb|skip)|refine And.intro (a:=_≤140737488355328) ?_ ?_|refine ⟨(fun _=>rfl),?_⟩|fail
 ·show (0+(l.map pipeV).length)*40≤140737488355328
  rw [List.length_map];omega
 ·exact hK
 ·have h:true=true→l=[]:=by assumption
  exact hN (h rfl)
end Gv
namespace Gv
variable [Glob] [Laid]
def clonePi_P:PSpec:=fun args rows K=>∃ (l:List PipeS),args=[.sl pipeV l]∧rows=[]∧l.length≤1000000∧K (.own 1) [.dead,.row 4 (l.map pipeV)]
theorem clonePi_prim:PrimOK Tryz.prog 200 clonePi_P:=by
 intro w0 m0 args rows K R m q w us C hv hT
 obtain ⟨l,rfl,rfl,hl,hK⟩:=hT
 refine prim_nil clonePi0_prim w0 m0 _ _ K R m q w us C hv ⟨l,rfl,rfl,hl,.inl hK,fun h=>.inr ⟨rfl,4,?_⟩⟩
 subst h
 exact hK
end Gv
namespace Gv
variable [Glob] [Laid]
theorem clonePr0_ca:callable Tryz.prog 201=true:=by kernel_rfl
def clonePr0_P:PSpec:=fun args rows K=>∃ (l:List ProcS),args=[.sl procV l]∧rows=[]∧l.length≤1000000∧K (.own 1) [.dead,.row 5 (l.map procV)]∧(l=[]→K .nil [])
noncomputable def clonePr0_lib:List (Nat × Spec):=[]
noncomputable def clonePr0_fns:List (Nat × FnI):=[]
noncomputable def clonePr0_prims:List (Nat × PSpec):=[]
theorem clonePr0_E:EnvOK ⟨Tryz.prog,tys,clonePr0_lib,clonePr0_fns,clonePr0_prims,[]⟩:=env_ok mixed0 tys0 .nil .nil .nil rfl
theorem clonePr0_prim:PrimOK Tryz.prog 201 clonePr0_P:=by
 refine prim_by clonePr0_E 6 clonePr0_ca (fi:={fn:=Tryz.f201,hooks:=[],draws:=[]}) ⟨Tryz.func201,by kernel_rfl,by kernel_rfl⟩ ?_
 rintro args rows K ⟨l,rfl,rfl,hl,hK,hN⟩
 repeat' first|(refine fun (b:Bool) hb=>?_;cases b<;>first|exact absurd hb (by decide)|exact nfl hb|exact nfr hb|skip)|refine And.intro (a:=_≤140737488355328) ?_ ?_|refine ⟨(fun _=>rfl),?_⟩|fail
 ·show (0+(l.map procV).length)*64≤140737488355328
  rw [List.length_map];omega
 ·exact hK
 ·have h:true=true→l=[]:=by assumption
  exact hN (h rfl)
end Gv
namespace Gv
variable [Glob] [Laid]
def clonePr_P:PSpec:=fun args rows K=>∃ (l:List ProcS),args=[.sl procV l]∧rows=[]∧l.length≤1000000∧K (.own 1) [.dead,.row 5 (l.map procV)]
theorem clonePr_prim:PrimOK Tryz.prog 201 clonePr_P:=by
 intro w0 m0 args rows K R m q w us C hv hT
 obtain ⟨l,rfl,rfl,hl,hK⟩:=hT
 refine prim_nil clonePr0_prim w0 m0 _ _ K R m q w us C hv ⟨l,rfl,rfl,hl,.inl hK,fun h=>.inr ⟨rfl,5,?_⟩⟩
 subst h
 exact hK
end Gv
namespace Gv
variable [Glob] [Laid]
theorem listsX_ca:callable Tryz.prog 198=true:=by kernel_rfl
def listsX_P:PSpec:=fun args rows K=>∃ (l:List Bs),args=[.sl blV l]∧rows=[]∧(l.length≤1000000∧∀ b∈l,b.length≤1000000)∧K (.own 0) [.row 1 (l.map blV)]
noncomputable def listsX_lib:List (Nat × Spec):=[(126,cloneB_S)]
noncomputable def listsX_fns:List (Nat × FnI):=[(199,{fn:=Tryz.f199,hooks:=[],draws:=[]})]
noncomputable def listsX_prims:List (Nat × PSpec):=[]
theorem listsX_E:EnvOK ⟨Tryz.prog,tys,listsX_lib,listsX_fns,listsX_prims,[]⟩:=env_ok mixed0 tys0 (.cons cloneB_ca cloneB_ok .nil) (.cons (by kernel_rfl) ⟨Tryz.func199,by kernel_rfl,by kernel_rfl⟩ .nil) .nil rfl
theorem listsX_prim:PrimOK Tryz.prog 198 listsX_P:=by
 refine prim_by listsX_E 6 listsX_ca (fi:={fn:=Tryz.f198,hooks:=[2],draws:=[]}) ⟨Tryz.func198,by kernel_rfl,by kernel_rfl⟩ ?_
 rintro args rows K ⟨l,rfl,rfl,⟨hl0,hfb⟩,hK⟩
 conv=>whnf
 refine join_live [] (σ:=Unit) (fun _=>[(0,.own 0)]) (fun _=>[.row 1 (l.map blV)]) (fun _=>True) ?_
 conv=>whnf
 refine ⟨?_,fun _ _=>?_⟩
 ·repeat' first|(refine fun (b:Bool) hb=>?_;cases b<;>first|exact absurd hb (by decide)|exact nfl hb|exact nfr hb|skip)|refine And.intro (a:=_≤140737488355328) ?_ ?_|refine ⟨(fun _=>rfl),?_⟩|fail
  ·show (0+(l.map blV).length)*24≤140737488355328
   rw [List.length_map]
   omega
  ·exact ⟨(),(by (refine wk_auto ?_;refine Sel4.mk rfl rfl ?_ ?_<;>(repeat' first|exact True.intro|exact rfl|exact .inl rfl|exact .inr rfl|refine And.intro ?_ ?_|fail))),trivial⟩
  ·have h:true=true→l=[]:=by assumption
   rw [h rfl]
   exact ⟨(),(by (refine wk_auto ?_;refine Sel4.mk rfl rfl ?_ ?_<;>(repeat' first|exact True.intro|exact rfl|exact .inl rfl|exact .inr rfl|refine And.intro ?_ ?_|fail))),trivial⟩
 repeat' first|(refine fun (hl:_≤MAXL)=>?_)|fail
 conv=>whnf
 refine loop_live [0,7,8] (σ:=Nat) (fun i=>[(9,.int .i64 i)]) (fun i=>[.row 1 (l.map blV)]) (fun i=>i≤l.length) (fun i=>l.length-i) 0 ?_
 conv=>whnf
 refine ⟨(by (refine wk_auto ?_;refine Sel4.mk rfl rfl ?_ ?_<;>(repeat' first|exact True.intro|exact rfl|exact .inl rfl|exact .inr rfl|refine And.intro ?_ ?_|fail))),Nat.zero_le _,fun i hi=>?_⟩
 repeat' first|(refine fun (b:Bool) hb=>?_;cases b<;>first|exact absurd hb (by decide)|exact nfl hb|exact nfr hb|skip)|refine ⟨rfl,?_⟩|fail
 ·conv=>whnf
  exact hK
 have hlt:i<l.length:=by
  have h:=of_decide_eq_true (by assumption:decide ((i:Int)<((l.map blV).length:Int))=true)
  rw [List.length_map] at h
  omega
 have hg:(l.map blV)[i]?=some (blV l[i]):=by rw [List.getElem?_map,List.getElem?_eq_getElem hlt];rfl
 have hlm:i<(l.map blV).length:=by rw [List.length_map];exact hlt
 refine ⟨i,rfl,hlm,?_⟩
 conv=>whnf
 refine ⟨_,hg,?_⟩
 repeat' first|refine ⟨_,rfl,?_,rfl,?_⟩|fail
 ·exact hfb _ (List.getElem_mem hlt)
 refine ⟨i,rfl,hlm,?_⟩
 conv=>whnf
 refine ⟨hlm,?_⟩
 repeat' first|refine And.intro (a:=I64 _) ?_ ?_|fail
 ·have hl1:(l.map blV).length≤MAXL:=by assumption
  rw [List.length_map] at hl1
  unfold MAXL at hl1;unfold I64;omega
 refine ⟨i+1,?_,hlt,by omega⟩
 (refine wk_auto ?_;refine Sel4.mk rfl rfl ?_ ?_<;>(repeat' first|exact True.intro|exact rfl|exact .inl rfl|exact .inr rfl|refine And.intro ?_ ?_|fail))
 have e:(l.map blV).set i (blV l[i])=l.map blV:=by
  have:(l.map blV)[i]'hlm=blV l[i]:=by simp
  rw [←this,List.set_getElem_self]
 show Row.row 1 (l.map blV)=Row.row 1 ((l.map blV).set i (blV l[i]))
 rw [e]
end Gv
namespace Gv
variable [Glob] [Laid]
structure copyZ (m:MachS):Prop where
 g:m.g.length≤1000∧∀ n∈m.g,n.ins.length≤1000000
 f:m.f.length≤1000∧∀ f∈m.f,f.b.length≤1000000
 s:m.sunk.length≤1000000
 q:m.pipes.length≤1000000∧∀ p∈m.pipes,p.b.length≤1000000
 p:m.p.length≤1000000
 go:∀ p∈m.p,(p.got.length≤1000000∧∀ b∈p.got,b.length≤1000000)∧(p.out.length≤1000000∧∀ b∈p.out,b.length≤1000000)
theorem copyX_ca:callable Tryz.prog 151=true:=by kernel_rfl
def copyX_P:PSpec:=fun args rows K=>∃ (m:MachS),args=[machV m]∧rows=[]∧copyZ m∧∀ Q ex,K (.agg [.sl nodeV m.g,.sl fileV m.f,.own 0,.own 1,.sl byteV m.sunk]) ([.row 4 (m.pipes.map pipeV),.row 5 (procEls Q m.p),.pack Q (subsOf m.p)]++ex)
noncomputable def copyX_lib:List (Nat × Spec):=[(149,copiedX_S),(90,copyF_S),(126,cloneB_S)]
noncomputable def copyX_fns:List (Nat × FnI):=[]
noncomputable def copyX_prims:List (Nat × PSpec):=[(200,clonePi_P),(201,clonePr_P),(198,listsX_P)]
theorem copyX_E:EnvOK ⟨Tryz.prog,tys,copyX_lib,copyX_fns,copyX_prims,[]⟩:=env_ok mixed0 tys0 (.cons copiedX_ca copiedX_ok (.cons copyF_ca copyF_ok (.cons cloneB_ca cloneB_ok .nil))) .nil (.cons clonePi_prim (.cons clonePr_prim (.cons listsX_prim .nil))) rfl
theorem copyX_prim:PrimOK Tryz.prog 151 copyX_P:=by
 refine prim_by copyX_E 6 copyX_ca (fi:={fn:=Tryz.f151,hooks:=[4,12,13],draws:=[(2,[0,1,3,0,8,31,0,64,255,223,1023,2047,4095,8191,16383]),(3,[0,1,3,0,8,31,31,127,255,511]),(7,[0,1,0,0,8,24,63,127,255]),(12,[0,1,0,0,8,0,0,0,128,448,0,0,2048,8128,16327,32711,65479,131071,262143,524287])]}) ⟨Tryz.func151,by kernel_rfl,by kernel_rfl⟩ ?_
 rintro args rows K ⟨m,rfl,rfl,hz,hK⟩
 conv=>whnf
 repeat' first|exact True.intro|refine ⟨_,⟨rfl,rfl⟩,?_⟩|refine And.intro (a:=chkPast _ _ _ _ _ _ _ _) ?_ ?_|fail
 conv=>whnf
 apply Exists.intro
 apply And.intro
 ·refine ⟨m.g,rfl,hz.g,?_⟩
  exact ⟨rfl,rfl⟩
 conv=>whnf
 repeat' first|exact True.intro|refine ⟨_,⟨rfl,rfl⟩,?_⟩|refine And.intro (a:=chkPast _ _ _ _ _ _ _ _) ?_ ?_|fail
 conv=>whnf
 skip
 apply Exists.intro
 apply And.intro
 ·refine ⟨m.f,rfl,hz.f,?_⟩
  exact ⟨rfl,rfl⟩
 conv=>whnf
 repeat' first|exact True.intro|refine ⟨_,⟨rfl,rfl⟩,?_⟩|refine And.intro (a:=chkPast _ _ _ _ _ _ _ _) ?_ ?_|fail
 conv=>whnf
 skip
 apply Exists.intro
 apply And.intro
 ·refine ⟨m.sunk,rfl,hz.s,?_⟩
  exact ⟨rfl,rfl⟩
 conv=>whnf
 repeat' first|exact True.intro|refine ⟨_,⟨rfl,rfl⟩,?_⟩|refine ⟨_,_,⟨rfl,rfl⟩,?_⟩|refine And.intro (a:=chkPend _ _ _ _ _ _) ?_ ?_|fail
 conv=>whnf
 skip
 conv=>whnf
 skip
 conv=>whnf
 skip
 refine join_live [3] (σ:=Unit) (fun _=>[(1,.ptr 3 0 0),(2,.ptr 4 0 0)]) (fun _=>[.row 4 (m.pipes.map pipeV),.row 5 (m.p.map procV),.dead,.box [.sl nodeV m.g,.sl fileV m.f,.own 0,.own 1,.sl byteV m.sunk],.box [.nil,.nil,.nil,.nil,.nil]]) (fun _=>True) ?_
 conv=>whnf
 refine ⟨?_,fun _ _=>?_⟩
 ·conv=>whnf
  repeat' first|exact True.intro|refine ⟨_,⟨rfl,rfl⟩,?_⟩|refine And.intro (a:=chkPast _ _ _ _ _ _ _ _) ?_ ?_|fail
  conv=>whnf
  apply Exists.intro
  apply Exists.intro
  apply And.intro
  ·refine ⟨m.pipes,rfl,rfl,hz.q.1,?_⟩
   exact ⟨rfl,rfl⟩
  conv=>whnf
  repeat' first|exact True.intro|refine ⟨_,⟨rfl,rfl⟩,?_⟩|refine And.intro (a:=chkPend _ _ _ _ _ _) ?_ ?_|refine And.intro (a:=chkPast _ _ _ _ _ _ _ _) ?_ ?_|refine ⟨⟨rfl,rfl⟩,?_⟩|fail
  conv=>whnf
  skip
  apply Exists.intro
  apply Exists.intro
  apply And.intro
  ·refine ⟨m.p,rfl,rfl,hz.p,?_⟩
   exact ⟨rfl,rfl⟩
  conv=>whnf
  repeat' first|exact True.intro|refine ⟨_,⟨rfl,rfl⟩,?_⟩|refine ⟨_,_,⟨rfl,rfl⟩,?_⟩|refine And.intro (a:=chkPend _ _ _ _ _ _) ?_ ?_|fail
  conv=>whnf
  skip
  conv=>whnf
  skip
  exact ⟨(),(by (refine wk_sel [some 3,some 5,some 2,some 0,some 1] rfl rfl ?_ ?_<;>(repeat' first|exact True.intro|exact rfl|exact .inl rfl|exact .inr rfl|refine And.intro ?_ ?_|fail))),trivial⟩
 conv=>whnf
 repeat' first|(refine fun (hl:_≤MAXL)=>?_)|fail
 conv=>whnf
 refine loop_live [1,2,3,29,30] (σ:=Nat) (fun i=>[(31,.int .i64 i)]) (fun i=>[.row 4 (m.pipes.map pipeV),.row 5 (m.p.map procV),.dead,.box [.sl nodeV m.g,.sl fileV m.f,.own 0,.own 1,.sl byteV m.sunk],.box [.nil,.nil,.nil,.nil,.nil]]) (fun i=>i≤m.pipes.length) (fun i=>m.pipes.length-i) 0 ?_
 conv=>whnf
 refine ⟨(by (refine wk_sel [some 0,some 1,some 2,some 3,some 4] rfl rfl ?_ ?_<;>(repeat' first|exact True.intro|exact rfl|exact .inl rfl|exact .inr rfl|refine And.intro ?_ ?_|fail))),Nat.zero_le _,fun i hi=>?_⟩
 repeat' first|(refine fun (b:Bool) hb=>?_;cases b<;>first|exact absurd hb (by decide)|exact nfl hb|exact nfr hb|skip)|(refine fun (hl:_≤MAXL)=>?_)|refine ⟨rfl,?_⟩|fail
 rotate_left
 ·have hlt:i<m.pipes.length := by
   have h:=of_decide_eq_true (by assumption:decide ((i:Int)<((m.pipes.map pipeV).length:Int))=true)
   rw [List.length_map] at h
   omega
  have hg:(m.pipes.map pipeV)[i]?=some (pipeV m.pipes[i]):=by rw [List.getElem?_map,List.getElem?_eq_getElem hlt];rfl
  have hlm:i<(m.pipes.map pipeV).length:=by rw [List.length_map];exact hlt
  refine ⟨i,rfl,hlm,?_⟩
  conv=>whnf
  refine ⟨_,hg,?_⟩
  repeat' first|exact True.intro|refine ⟨_,⟨rfl,rfl⟩,?_⟩|refine And.intro (a:=chkPast _ _ _ _ _ _ _ _) ?_ ?_|fail
  conv=>whnf
  skip
  apply Exists.intro
  apply And.intro
  ·refine ⟨m.pipes[i].b,rfl,hz.q.2 _ (List.getElem_mem hlt),?_⟩
   exact ⟨rfl,rfl⟩
  conv=>whnf
  skip
  apply Exists.intro
  apply And.intro
  ·refine ⟨rfl,i,rfl,hlm,?_⟩
   exact ⟨rfl,rfl⟩
  conv=>whnf
  refine ⟨trivial,?_⟩
  conv=>whnf
  repeat' first|refine ⟨_,⟨rfl,rfl⟩,?_⟩|fail
  apply Exists.intro
  apply Exists.intro
  apply And.intro
  ·conv=>whnf
   refine ⟨_,hg,?_⟩
   exact ⟨rfl,rfl⟩
  conv=>whnf
  repeat' first|exact True.intro|refine And.intro (a:=I64 _) ?_ ?_|refine And.intro (a:=chkPend _ _ _ _ _ _) ?_ ?_|fail
  ·have hM:(m.pipes.map pipeV).length≤MAXL:=by assumption
   rw [List.length_map] at hM
   unfold I64;unfold MAXL at hM;omega
  refine ⟨i+1,?_,hlt,by omega⟩
  refine wk_sel [some 0,some 1,some 2,some 3,some 4] rfl rfl ?_ ?_<;>(repeat' first|exact True.intro|exact rfl|exact .inl rfl|exact .inr rfl|refine And.intro ?_ ?_|fail)
  have e:(m.pipes.map pipeV).set i (pipeV m.pipes[i])=m.pipes.map pipeV:=by
   have:(m.pipes.map pipeV)[i]'hlm=pipeV m.pipes[i]:=by simp
   rw [←this,List.set_getElem_self]
  show Row.row 4 (m.pipes.map pipeV)=Row.row 4 ((m.pipes.map pipeV).set i (pipeV m.pipes[i]))
  rw [e]
 have e0:m.p.map procV=copEls noLoc m.p 0:=by simp [copEls,procEls]
 rw [e0]
 conv=>whnf
 skip
 conv=>whnf
 refine loop_live [1,2,3,46,47] (σ:=Nat × Loc) (fun s=>[(48,.int .i64 s.1)]) (fun s=>[.row 4 (m.pipes.map pipeV),.row 5 (copEls s.2 m.p s.1),.pack s.2 (subsOf (m.p.take s.1)),.box [.sl nodeV m.g,.sl fileV m.f,.own 0,.own 1,.sl byteV m.sunk],.box [.nil,.nil,.nil,.nil,.nil]]) (fun s=>s.1≤m.p.length) (fun s=>m.p.length-s.1) (0,noLoc) ?_
 conv=>whnf
 refine ⟨(wk_pack0 2 noLoc rfl).trans (by (refine wk_sel [some 0,some 1,some 2,some 3,some 4] rfl rfl ?_ ?_<;>(repeat' first|exact True.intro|exact rfl|exact .inl rfl|exact .inr rfl|refine And.intro ?_ ?_|fail))),Nat.zero_le _,fun s hs=>?_⟩
 obtain ⟨k,Q⟩:=s
 dsimp only at hs
 have hcl:=copEls_len (Q:=Q) hs
 have hcn:(copEls noLoc m.p 0).length=m.p.length:=copEls_len (Nat.zero_le _)
 conv=>whnf
 repeat' first|(refine fun (b:Bool) hb=>?_;cases b<;>first|exact absurd hb (by decide)|exact nfl hb|exact nfr hb|skip)|fail
 ·have hkl:k=m.p.length := by
   have h:=of_decide_eq_false (by assumption:decide ((k:Int)<((copEls noLoc m.p 0).length:Int))=false)
   rw [hcn] at h
   omega
  subst hkl
  have hfin:=hK Q [.box [.sl nodeV m.g,.sl fileV m.f,.own 0,.own 1,.sl byteV m.sunk],.box [.sl nodeV m.g,.sl fileV m.f,.own 0,.own 1,.sl byteV m.sunk]]
  have e1:copEls Q m.p m.p.length=procEls Q m.p:=by simp [copEls]
  have e2:subsOf (m.p.take m.p.length)=subsOf m.p:=by rw [List.take_length]
  rw [←e1,←e2] at hfin
  conv=>whnf
  skip
  exact hfin
 have hk:k<m.p.length:=by
  have h:=of_decide_eq_true (by assumption:decide ((k:Int)<((copEls noLoc m.p 0).length:Int))=true)
  rw [hcn] at h
  omega
 have hat:=copEls_at (Q:=Q) hk
 conv=>whnf
 refine join_any ?_
 conv=>whnf
 refine join_live [1,2,3,46,47,48] (σ:=Unit) (fun _=>[(6,.int .i64 k),(7,.ptr 5 0 0)]) (fun _=>[.row 4 (m.pipes.map pipeV),.rowq 5 (copEls Q m.p k),.pack Q (subsOf (m.p.take k)),.box [.sl nodeV m.g,.sl fileV m.f,.own 0,.own 1,.sl byteV m.sunk],.box [.nil,.nil,.nil,.nil,.nil],.box (procV m.p[k]).cells]) (fun _=>True) ?_
 conv=>whnf
 refine ⟨?_,fun _ _=>?_⟩
 ·conv=>whnf
  refine ⟨rfl,k,rfl,by rw [hcl];exact hk,?_⟩
  conv=>whnf
  refine ⟨_,hat,?_⟩
  skip
  exact ⟨(),(by (refine wk_sel [some 0,some 1,some 2,some 3,some 4,some 5] rfl rfl ?_ ?_<;>(repeat' first|exact True.intro|exact rfl|exact .inl rfl|exact .inr rfl|refine And.intro ?_ ?_|fail))),trivial⟩
 conv=>whnf
 repeat' first|exact True.intro|refine ⟨_,⟨rfl,rfl⟩,?_⟩|refine And.intro (a:=chkPast _ _ _ _ _ _ _ _) ?_ ?_|fail
 conv=>whnf
 skip
 conv=>whnf
 skip
 apply Exists.intro
 apply Exists.intro
 apply And.intro
 ·conv=>whnf
  refine ⟨m.p[k].got,rfl,rfl,(hz.go _ (List.getElem_mem hk)).1,?_⟩
  exact ⟨rfl,rfl⟩
 conv=>whnf
 repeat' first|exact True.intro|refine ⟨_,⟨rfl,rfl⟩,?_⟩|refine And.intro (a:=chkPend _ _ _ _ _ _) ?_ ?_|refine And.intro (a:=chkPast _ _ _ _ _ _ _ _) ?_ ?_|refine ⟨⟨rfl,rfl⟩,?_⟩|fail
 conv=>whnf
 skip
 apply Exists.intro
 apply Exists.intro
 apply And.intro
 ·conv=>whnf
  refine ⟨m.p[k].out,rfl,rfl,(hz.go _ (List.getElem_mem hk)).2,?_⟩
  exact ⟨rfl,rfl⟩
 conv=>whnf
 repeat' first|exact True.intro|refine And.intro (a:=chkPend _ _ _ _ _ _) ?_ ?_|refine ⟨⟨rfl,rfl⟩,?_⟩|fail
 conv=>whnf
 skip
 apply Exists.intro
 apply And.intro
 ·refine ⟨rfl,k,rfl,by rw [hcl];exact hk,?_⟩
  exact ⟨rfl,rfl⟩
 conv=>whnf
 refine ⟨trivial,?_⟩
 conv=>whnf
 repeat' first|refine ⟨_,⟨rfl,rfl⟩,?_⟩|fail
 apply Exists.intro
 apply Exists.intro
 apply And.intro
 ·conv=>whnf
  refine ⟨_,hat,?_⟩
  exact ⟨rfl,rfl⟩
 conv=>whnf
 repeat' first|exact True.intro|refine And.intro (a:=chkPend _ _ _ _ _ _) ?_ ?_|refine ⟨⟨rfl,rfl⟩,?_⟩|fail
 conv=>whnf
 skip
 apply Exists.intro
 apply And.intro
 ·refine ⟨rfl,k,rfl,by rw [List.length_set,hcl];exact hk,?_⟩
  exact ⟨rfl,rfl⟩
 conv=>whnf
 refine ⟨trivial,?_⟩
 conv=>whnf
 repeat' first|refine ⟨_,⟨rfl,rfl⟩,?_⟩|fail
 apply Exists.intro
 apply Exists.intro
 apply And.intro
 ·conv=>whnf
  refine ⟨_,List.getElem?_set_self (by rw [hcl];exact hk),?_⟩
  exact ⟨rfl,rfl⟩
 conv=>whnf
 repeat' first|exact True.intro|refine And.intro (a:=chkPend _ _ _ _ _ _) ?_ ?_|fail
 conv=>whnf
 skip
 have hel:∀ x y:V,((copEls Q m.p k).set k x).set k y=(copEls Q m.p k).set k y:=fun x y=>List.set_set ..
 rw [hel]
 refine wkE_absorb 1 2 6 7 k rfl rfl rfl rfl (by decide) (List.getElem?_set_self (by rw [hcl];exact hk)) rfl (by rw [subsOf_len,List.length_take];omega) (fun j x hj hx=>?_) fun Q' hQ'=>?_
 ·rw [List.getElem?_set_ne (fun h=>hj h.symm)] at hx
  exact copEls_pure x (List.mem_of_getElem? hx)
 rw [List.set_set]
 conv=>whnf
 repeat' first|refine And.intro (a:=I64 _) ?_ ?_|fail
 ·have hM:(m.p.map procV).length≤MAXL:=by rw [e0];assumption
  rw [List.length_map] at hM
  unfold I64;unfold MAXL at hM;omega
 refine ⟨(k+1,Q'),?_,hk,by show m.p.length-(k+1)<m.p.length-k;omega⟩
 have hst:=copEls_step hk hQ'
 have hsb:=subs_step hk
 show Wk _ _ _ _ [.row 4 (m.pipes.map pipeV),.row 5 (copEls Q' m.p (k+1)),.pack Q' (subsOf (m.p.take (k+1))),.box [.sl nodeV m.g,.sl fileV m.f,.own 0,.own 1,.sl byteV m.sunk],.box [.nil,.nil,.nil,.nil,.nil]]
 rw [←hst,←hsb]
 exact (by (refine wk_sel [some 0,some 1,some 2,some 3,some 4] rfl rfl ?_ ?_<;>(repeat' first|exact True.intro|exact rfl|exact .inl rfl|exact .inr rfl|refine And.intro ?_ ?_|fail)))
end Gv
namespace Gv
variable [Glob] [Laid] [Nums] [Errs]
structure FocM (m:MachS) (i:Nat):Prop where
 g:checkG m.g=0
 f:checkFiles m.f=0
 np:m.p.length=m.g.length
 nq:m.pipes.length=(allIns m.g).length
 lt:i<m.g.length
 got:(pr m i).got.length=nI m.g i
 out:(pr m i).out.length=nO m.g i
 room:∀ p∈m.pipes,p.b.length≤400000
 big:∀ b∈(pr m i).got++(pr m i).out,b.length≤400000
theorem FocM.foc {m:MachS} {i:Nat} (h:FocM m i) {Q:Loc}:FocOK m i (procEls Q m.p):=⟨h.g,h.f,h.np,h.nq,h.lt,by rw [procEls_len];exact h.np,h.got,h.out,h.room,procEls_pure,h.big⟩
def Steps (I:MachS→Prop):Prop:=∀ m,I m→∀ i,i<m.p.length→FocM m i∧stepZ m i∧I (stepM m i).1
theorem pipesBad_at:∀ {l:List PipeS},pipesBad l=0→∀ p∈l,checkPipe p=0
 | a::r,h,p,hp=>by
  unfold pipesBad at h
  split at h
  ·rename_i h1;exact absurd h h1
  ·rename_i h1
   rcases List.mem_cons.1 hp with rfl|hp
   ·exact Decidable.not_not.1 h1
   ·exact pipesBad_at h p hp
theorem procsBad_at:∀ {g:List Gp.Node} {l:List ProcS},procsBad g l=0→∀ i (h1:i<g.length) (h2:i<l.length),checkProc g[i] l[i]=0
 | n::r,a::s,h,i,h1,h2=>by
  unfold procsBad at h
  split at h
  ·rename_i h3;exact absurd h h3
  ·rename_i h3
   cases i with
   | zero=>exact Decidable.not_not.1 h3
   | succ i=>exact procsBad_at h i (by simpa using h1) (by simpa using h2)
structure Right (m:MachS):Prop where
 g:checkG m.g=0
 f:checkFiles m.f=0
 np:m.p.length=m.g.length
 nq:m.pipes.length=(allIns m.g).length
 q:∀ p∈m.pipes,checkPipe p=0
 p:∀ i (h1:i<m.g.length) (h2:i<m.p.length),checkProc m.g[i] m.p[i]=0
 s:m.sunk.length≤40000
theorem right_of {m:MachS} (h:checkMach m=0):Right m:=by
 unfold checkMach at h
 split at h
 ·rename_i h1;exact absurd h h1
 rename_i h1
 split at h
 ·rename_i h2;exact absurd h h2
 rename_i h2
 split at h
 ·cases h
 rename_i h3
 split at h
 ·rename_i h4;exact absurd h h4
 rename_i h4
 split at h
 ·rename_i h5;exact absurd h h5
 rename_i h5
 split at h
 ·cases h
 rename_i h6
 exact ⟨Decidable.not_not.1 h1,Decidable.not_not.1 h2,by omega,by omega,pipesBad_at (Decidable.not_not.1 h4),procsBad_at (Decidable.not_not.1 h5),by omega⟩
theorem proc_of {n:Gp.Node} {p:ProcS} (h:checkProc n p=0):p.got.length=n.ins.length∧(p.out.length:Int)=outsN n∧0≤p.pos∧p.pos≤(n.ins.length:Int)∧(p.read=true∨n.ins.length=0∨p.pos<(n.ins.length:Int))∧∀ b∈p.got++p.out,b.length≤40000:=by
 unfold checkProc at h
 split at h
 ·cases h
 rename_i h1
 split at h
 ·cases h
 rename_i h2
 split at h
 ·cases h
 rename_i h3
 split at h
 ·cases h
 rename_i h4
 refine ⟨by omega,by omega,by omega,by omega,?_,fun b hb=>?_⟩
 ·cases hr:p.read with
  | true=>exact .inl rfl
  | false =>
   right
   by_cases h0:n.ins.length=0
   ·exact .inl h0
   ·right
    have:¬ p.pos=(n.ins.length:Int):=fun e=>h3 ⟨hr,e,by omega⟩
    omega
 ·rcases Nat.lt_or_ge 40000 b.length with h5|h5
  ·exact absurd (List.any_eq_true.2 ⟨b,hb,decide_eq_true h5⟩) h4
  ·exact h5
theorem flat_le:∀ (l:List Bs) (n:Nat),(∀ b∈l,b.length≤n)→l.flatten.length≤l.length*n
 | [],n,_=>by simp
 | a::r,n,h=>by
  have h1:=h a (by simp)
  have h2:=flat_le r n fun b hb=>h b (by simp [hb])
  rw [List.flatten_cons,List.length_append,List.length_cons,Nat.succ_mul]
  omega
theorem pr_at {m:MachS} {i:Nat} (h:i<m.p.length):pr m i=m.p[i]:=by
 unfold pr
 rw [List.getD_eq_getElem?_getD,List.getElem?_eq_getElem h];rfl
theorem right_foc {m:MachS} (R:Right m) {i:Nat} (hi:i<m.p.length):FocM m i∧stepZ m i:=by
 have hg:i<m.g.length:=by rw [←R.np];exact hi
 have hp:=proc_of (R.p i hg hi)
 obtain ⟨p1,p2,p3,p4,p5,p6⟩:=hp
 have hpr:=pr_at hi
 have hnd:ndG m.g i=m.g[i]:=ndG_at hg
 have hni:nI m.g i=m.g[i].ins.length:=by unfold nI;rw [hnd]
 have hi5:=ins_le ((gf_of R.g).node i hg)
 rw [hnd] at hi5
 have hgl:(pr m i).got.flatten.length≤5*40000:=by
  have h1:=flat_le (pr m i).got 40000 fun b hb=>p6 b (by rw [←hpr];exact List.mem_append_left _ hb)
  have h2:(pr m i).got.length≤5:=by rw [hpr,p1];exact hi5
  exact Nat.le_trans h1 (Nat.mul_le_mul_right 40000 h2)
 have hgl:(pr m i).got.flatten.length≤200000:=hgl
 refine ⟨⟨R.g,R.f,R.np,R.nq,hg,by rw [hpr,hni];exact p1,?_,fun p hp=>?_,fun b hb=>?_⟩,fun p hp=>R.q p hp,by rw [hpr];exact p3,by rw [hpr,hni];exact p5,by omega,by have:=R.s;omega⟩
 ·rw [hpr]
  unfold nO
  rw [hnd]
  omega
 ·have:=pipe_small ((check_link p).trans (R.q p hp))
  omega
 ·rw [hpr] at hb
  have:=p6 b hb
  omega
theorem right_copy {m:MachS} (R:Right m):copyZ m:=by
 have hg:=(gf_of R.g).len.2
 have hf:=checkFiles_ok R.f
 refine ⟨⟨by omega,fun n hn=>?_⟩,⟨by omega,fun f h=>?_⟩,by have:=R.s;omega,⟨by rw [R.nq];exact allIns_small R.g,fun p h=>?_⟩,by rw [R.np];omega,fun p hp=>?_⟩
 ·obtain ⟨i,hi,rfl⟩:=List.getElem_of_mem hn
  have:=ins_le ((gf_of R.g).node i hi)
  rw [ndG_at hi] at this
  omega
 ·have:=(hf.2 f h).2
  omega
 ·have:=pipe_small ((check_link p).trans (R.q p h))
  omega
 ·obtain ⟨i,hi,rfl⟩:=List.getElem_of_mem hp
  have hgi:i<m.g.length:=by rw [←R.np];exact hi
  obtain ⟨p1,p2,p3,p4,p5,p6⟩:=proc_of (R.p i hgi hi)
  have hcn:=(gf_of R.g).node i hgi
  have hi5:=ins_le hcn
  have ho5:=outsN_bnd hcn
  rw [ndG_at hgi] at hi5 ho5
  refine ⟨⟨by omega,fun b hb=>?_⟩,⟨by omega,fun b hb=>?_⟩⟩
  ·have:=p6 b (List.mem_append_left _ hb);omega
  ·have:=p6 b (List.mem_append_right _ hb);omega
def runP (m:MachS) (l:List Int):MachS × List Int × Int:=if checkMach m≠0 then (zM,[],checkMach m) else if 40000<l.length then (zM,[],2) else ((runGo l m []).1,(runGo l m []).2,0)
theorem stepM_len (m:MachS) (i:Nat) (hi:i<m.p.length):(stepM m i).1.p.length=m.p.length:=by rw [(only_step hi).p,List.length_set]
theorem runGo_app:∀ (l:List Int) (m:MachS) (s:List Int),runGo l m s=((runGo l m []).1,s++(runGo l m []).2)
 | [],m,s=>by simp [runGo]
 | i::r,m,s=>by
  rw [runGo,runGo_app r _ (s++[(pickM m i).2])]
  conv=>rhs;rw [runGo,runGo_app r _ ([]++[(pickM m i).2])]
  simp
theorem runGo_snoc:∀ (l:List Int) (m:MachS) (x:Int),runGo (l++[x]) m []=((pickM (runGo l m []).1 x).1,(runGo l m []).2++[(pickM (runGo l m []).1 x).2])
 | [],m,x=>by simp [runGo]
 | i::r,m,x=>by
  rw [List.cons_append,runGo,runGo_app (r++[x]),runGo_snoc r,runGo,runGo_app r (pickM m i).1 ([]++[(pickM m i).2])]
  simp
theorem runGo_len:∀ (l:List Int) (m:MachS) (s:List Int),(runGo l m s).2.length=s.length+l.length
 | [],m,s=>rfl
 | i::r,m,s=>by
  rw [runGo,runGo_len r]
  simp
  omega
end Gv
namespace Gv
variable [Glob] [Laid] [Nums] [Errs]
def newP (g:List Gp.Node) (f:List FileS) (rm:Int):MachS × Int:=if checkG g≠0 then (zM,checkG g) else if checkFiles f≠0 then (zM,checkFiles f) else if rm<1∨1000<rm then (zM,3) else (freshM g f rm,0)
theorem leL_rep (c:Nat):LeL (List.replicate c V.nil) ((List.replicate c ([]:Bs)).map blV):=by
 induction c with
 | zero=>exact LeL.refl _
 | succ c ih =>
  rw [List.replicate_succ,List.replicate_succ,List.map_cons]
  refine LeL.cons ⟨rfl,fun j v v' h h'=>?_⟩ ih
  match j,h,h' with
  | 0,h,h' =>
   simp [V.cells] at h
   subst h
   have:blV []=v':=by simpa [V.cells,blV] using h'
   subst this
   exact V.Le.nil _
  | n+1,h,_=>simp [V.cells] at h
theorem newX_ca:callable Tryz.prog 86=true:=by kernel_rfl
def newX_S:Spec:=fun args K=>∃ (g:List Gp.Node) (f:List FileS) (rm:Int),args=[.agg [.sl nodeV g],.sl fileV f,.int .i64 rm]∧K (.tup [machV (newP g f rm).1,.int .i64 (newP g f rm).2])
noncomputable def newX_lib:List (Nat × Spec):=[(78,checkG_S),(89,cfiles_S),(149,copiedX_S),(90,copyF_S),(82,outs_S)]
noncomputable def newX_fns:List (Nat × FnI):=[]
noncomputable def newX_prims:List (Nat × PSpec):=[]
theorem newX_E:EnvOK ⟨Tryz.prog,tys,newX_lib,newX_fns,newX_prims,[]⟩:=env_ok mixed0 tys0 (.cons checkG_ca checkG_ok (.cons cfiles_ca cfiles_ok (.cons copiedX_ca copiedX_ok (.cons copyF_ca copyF_ok (.cons outs_ca outs_ok .nil))))) .nil .nil rfl
theorem newX_ok:Pure Tryz.prog 86 newX_S:=by
 refine pure_by newX_E 6 (fi:={fn:=Tryz.f86,hooks:=[4,7,9,19],draws:=[(21,[0,1,0,4,12,28,0,64,192,508,1020,2047,4095,8191])]}) ⟨Tryz.func86,by kernel_rfl,by kernel_rfl⟩ ?_
 rintro _ K ⟨g,f,rm,rfl,hK⟩
 replace hK:∀ r,r=.tup [machV (newP g f rm).1,.int .i64 (newP g f rm).2]→K r:=fun r h=>h ▸ hK
 conv=>whnf
 refine join_live [1,2,3,6] (σ:=Unit) (fun _=>[]) (fun _=>[.box [.sl nodeV g],.box [.nil,.nil,.nil,.nil,.nil]]) (fun _=>checkG g=0) ?_
 conv=>whnf
 refine ⟨?_,fun _ h4=>?_⟩
 ·conv=>whnf
  skip
  refine ⟨g,rfl,?_⟩
  repeat' first|(refine fun (b:Bool) hb=>?_;cases b<;>first|exact absurd hb (by decide)|exact nfl hb|exact nfr hb|skip)|fail
  ·exact ⟨(),(by (refine wk_auto ?_;refine Sel4.mk rfl rfl ?_ ?_<;>(repeat' first|exact True.intro|exact rfl|exact .inl rfl|exact .inr rfl|refine And.intro ?_ ?_|fail))),by simpa using ‹(!decide (checkG g=0))=false›⟩
  ·have h0:¬ checkG g=0:=by simpa using ‹(!decide (checkG g=0))=true›
   conv=>whnf
   skip
   refine ⟨Gp.Node,nodeV,?_⟩
   refine ⟨FileS,fileV,?_⟩
   refine ⟨PipeS,pipeV,?_⟩
   refine ⟨ProcS,procV,?_⟩
   refine ⟨UInt8,byteV,?_⟩
   refine hK _ ?_
   unfold newP
   rw [if_pos h0]
   rfl
 conv=>whnf
 refine join_live [1,2,3,6] (σ:=Unit) (fun _=>[]) (fun _=>[.box [.sl nodeV g],.box [.nil,.nil,.nil,.nil,.nil]]) (fun _=>checkFiles f=0) ?_
 conv=>whnf
 refine ⟨?_,fun _ h7=>?_⟩
 ·conv=>whnf
  skip
  refine ⟨f,rfl,?_⟩
  repeat' first|(refine fun (b:Bool) hb=>?_;cases b<;>first|exact absurd hb (by decide)|exact nfl hb|exact nfr hb|skip)|fail
  ·exact ⟨(),(by (refine wk_auto ?_;refine Sel4.mk rfl rfl ?_ ?_<;>(repeat' first|exact True.intro|exact rfl|exact .inl rfl|exact .inr rfl|refine And.intro ?_ ?_|fail))),by simpa using ‹(!decide (checkFiles f=0))=false›⟩
  ·have h0:¬ checkFiles f=0:=by simpa using ‹(!decide (checkFiles f=0))=true›
   conv=>whnf
   skip
   refine ⟨Gp.Node,nodeV,?_⟩
   refine ⟨FileS,fileV,?_⟩
   refine ⟨PipeS,pipeV,?_⟩
   refine ⟨ProcS,procV,?_⟩
   refine ⟨UInt8,byteV,?_⟩
   refine hK _ ?_
   unfold newP
   rw [if_neg (by rw [h4];decide),if_pos h0]
   rfl
 conv=>whnf
 refine join_live [1,2,3,6] (σ:=Unit) (fun _=>[]) (fun _=>[.box [.sl nodeV g],.box [.nil,.nil,.nil,.nil,.nil]]) (fun _=>¬ (rm<1∨1000<rm)) ?_
 conv=>whnf
 refine ⟨?_,fun _ h9=>?_⟩
 ·conv=>whnf
  repeat' first|(refine fun (b:Bool) hb=>?_;cases b<;>first|exact absurd hb (by decide)|exact nfl hb|exact nfr hb|skip)|fail
  all_goals (try (conv=>whnf))
  all_goals (skip)
  all_goals (try (conv=>whnf))
  all_goals (skip)
  ·exact ⟨(),(by (refine wk_auto ?_;refine Sel4.mk rfl rfl ?_ ?_<;>(repeat' first|exact True.intro|exact rfl|exact .inl rfl|exact .inr rfl|refine And.intro ?_ ?_|fail))),by grind⟩
  ·have hr:rm<1∨1000<rm:=by grind
   refine ⟨Gp.Node,nodeV,?_⟩
   refine ⟨FileS,fileV,?_⟩
   refine ⟨PipeS,pipeV,?_⟩
   refine ⟨ProcS,procV,?_⟩
   refine ⟨UInt8,byteV,?_⟩
   refine hK _ ?_
   unfold newP
   rw [if_neg (by rw [h4];decide),if_neg (by rw [h7];decide),if_pos hr]
   rfl
  ·have hr:rm<1∨1000<rm:=by grind
   refine ⟨Gp.Node,nodeV,?_⟩
   refine ⟨FileS,fileV,?_⟩
   refine ⟨PipeS,pipeV,?_⟩
   refine ⟨ProcS,procV,?_⟩
   refine ⟨UInt8,byteV,?_⟩
   refine hK _ ?_
   unfold newP
   rw [if_neg (by rw [h4];decide),if_neg (by rw [h7];decide),if_pos hr]
   rfl
 have hgf:=gf_of h4
 have hff:=checkFiles_ok h7
 conv=>whnf
 skip
 refine ⟨g,rfl,⟨by have:=hgf.len.2;omega,fun n hn=>?_⟩,?_⟩
 ·obtain ⟨i,hi,rfl⟩:=List.getElem_of_mem hn
  have:=ins_le (hgf.node i hi)
  rw [ndG_at hi] at this
  omega
 skip
 refine ⟨f,rfl,⟨by omega,fun x hx=>by have:=(hff.2 x hx).2;omega⟩,?_⟩
 have hin:=allIns_small h4
 conv=>whnf
 repeat' first|(refine fun (hl:_≤MAXL)=>?_)|fail
 conv=>whnf
 refine loop_live [2,3,6,10,41,42] (σ:=Nat) (fun k=>[(43,.int .i64 k)]) (fun k=>[.box [.sl nodeV g],.box [.nil,.nil,.nil,.nil,.nil],.box [.sl nodeV g,.sl fileV f,.own 3,.own 4,.nil],.row 4 (((allIns (g.take k)).map (freshQ g rm)).map pipeV),.row 5 (((g.take k).map freshP).map procV)]) (fun k=>k≤g.length) (fun k=>g.length-k) 0 ?_
 conv=>whnf
 refine ⟨(by (refine wk_sel [some 0,some 1,some 2,none,none] rfl rfl ?_ ?_<;>(repeat' first|exact True.intro|exact rfl|exact .inl rfl|exact .inr rfl|refine And.intro ?_ ?_|fail))),Nat.zero_le _,fun k hk=>?_⟩
 repeat' first|refine ⟨_,_,_,LeL.refl _,?_⟩|(refine fun (b:Bool) hb=>?_;cases b<;>first|exact absurd hb (by decide)|exact nfl hb|exact nfr hb|skip)|(refine fun (hl:_≤MAXL)=>?_)|refine ⟨_,rfl,?_,rfl,?_⟩|fail
 ·have hkl:k=g.length := by
   have h:=of_decide_eq_false (by assumption:decide ((k:Int)<(g.length:Int))=false)
   omega
  subst hkl
  conv=>whnf
  skip
  refine ⟨UInt8,byteV,?_⟩
  refine hK _ ?_
  unfold newP
  rw [if_neg (by rw [h4];decide),if_neg (by rw [h7];decide),if_neg h9,List.take_length]
  rfl
 ·have h:=of_decide_eq_true (by assumption:decide ((k:Int)<(g.length:Int))=true)
  omega
 have hk2:k<g.length:=by
  have h:=of_decide_eq_true (by assumption:decide ((k:Int)<(g.length:Int))=true)
  omega
 have hcn:=hgf.node k hk2
 have hi5:=ins_le hcn
 rw [ndG_at hk2] at hi5 hcn
 have hsp:allIns (g.take (k+1))=allIns (g.take k)++g[k].ins:=by
  rw [List.take_succ_eq_append_getElem hk2,allIns_app]
  simp [allIns]
 have hsl:(allIns (g.take (k+1))).length≤(allIns g).length:=by
  conv=>rhs;rw [←List.take_append_drop (k+1) g,allIns_app,List.length_append]
  omega
 rw [hsp,List.length_append] at hsl
 conv=>whnf
 skip
 conv=>whnf
 refine loop_live [2,3,6,10,12,41,42,43,48,49] (σ:=Nat) (fun j=>[(50,.int .i64 j)]) (fun j=>[.box [.sl nodeV g],.box [.nil,.nil,.nil,.nil,.nil],.box [.sl nodeV g,.sl fileV f,.own 3,.own 4,.nil],.row 4 (((allIns (g.take k)++g[k].ins.take j).map (freshQ g rm)).map pipeV),.row 5 (((g.take k).map freshP).map procV),.box (nodeV g[k]).cells]) (fun j=>j≤g[k].ins.length) (fun j=>g[k].ins.length-j) 0 ?_
 conv=>whnf
 refine ⟨?_,Nat.zero_le _,fun j hj=>?_⟩
 ·have e:allIns (g.take k)++g[k].ins.take 0=allIns (g.take k):=by simp
  rw [e]
  exact (by (refine wk_sel [some 0,some 1,some 2,some 3,some 4,some 5] rfl rfl ?_ ?_<;>(repeat' first|exact True.intro|exact rfl|exact .inl rfl|exact .inr rfl|refine And.intro ?_ ?_|fail)))
 repeat' first|exact True.intro|(refine fun (b:Bool) hb=>?_;cases b<;>first|exact absurd hb (by decide)|exact nfl hb|exact nfr hb|skip)|refine ⟨_,⟨rfl,rfl⟩,?_⟩|refine ⟨_,(fun _=>⟨rfl,rfl⟩),?_⟩|refine And.intro (a:=chkPast _ _ _ _ _ _ _ _) ?_ ?_|refine ⟨_,rfl,?_,rfl,?_⟩|fail
 ·have hjl:j=g[k].ins.length := by
   have h:=of_decide_eq_false (by assumption:decide ((j:Int)<(g[k].ins.length:Int))=false)
   omega
  subst hjl
  have ho5:=outsN_bnd hcn
  conv=>whnf
  skip
  conv=>whnf
  skip
  apply Exists.intro
  apply And.intro
  ·refine ⟨rfl,g[k].ins.length,rfl,by show g[k].ins.length*24≤_;omega,Bs,blV,List.replicate g[k].ins.length [],leL_rep _,?_⟩
   exact ⟨rfl,rfl⟩
  conv=>whnf
  repeat' first|exact True.intro|refine ⟨_,⟨rfl,rfl⟩,?_⟩|refine And.intro (a:=chkPast _ _ _ _ _ _ _ _) ?_ ?_|fail
  conv=>whnf
  skip
  apply Exists.intro
  apply And.intro
  ·refine ⟨g[k],rfl,?_⟩
   exact ⟨rfl,rfl⟩
  conv=>whnf
  skip
  apply Exists.intro
  apply And.intro
  ·refine ⟨rfl,(outsN g[k]).toNat,by omega,by show (outsN g[k]).toNat*24≤_;omega,Bs,blV,List.replicate (outsN g[k]).toNat [],leL_rep _,?_⟩
   exact ⟨rfl,rfl⟩
  conv=>whnf
  repeat' first|refine ⟨_,⟨rfl,rfl⟩,?_⟩|fail
  conv=>whnf
  skip
  refine ⟨_,⟨ProcS,procV,[freshP g[k]],LeL.refl _,rfl,rfl⟩,?_⟩
  conv=>whnf
  skip
  apply Exists.intro
  apply Exists.intro
  apply And.intro
  ·refine ⟨fun _=>rfl,?_,rfl,rfl⟩
   show ((((g.take k).map freshP).map procV).length+1)*64≤140737488355328
   rw [List.length_map,List.length_map,List.length_take]
   have:=hgf.len.2
   omega
  conv=>whnf
  repeat' first|exact True.intro|refine And.intro (a:=I64 _) ?_ ?_|refine ⟨_,⟨rfl,rfl⟩,?_⟩|refine ⟨_,_,⟨rfl,rfl⟩,?_⟩|refine And.intro (a:=chkPend _ _ _ _ _ _) ?_ ?_|fail
  conv=>whnf
  skip
  ·have:=hgf.len.2
   (try unfold I64);omega
  refine ⟨k+1,?_,hk2,by omega⟩
  have e1:((allIns (g.take (k+1))).map (freshQ g rm)).map pipeV=((allIns (g.take k)++g[k].ins.take g[k].ins.length).map (freshQ g rm)).map pipeV:=by rw [hsp,List.take_length]
  have e2:((g.take (k+1)).map freshP).map procV=((g.take k).map freshP).map procV++[freshP g[k]].map procV:=by
   rw [List.take_succ_eq_append_getElem hk2,List.map_append,List.map_append];rfl
  show Wk _ _ _ _ [.box [.sl nodeV g],.box [.nil,.nil,.nil,.nil,.nil],.box [.sl nodeV g,.sl fileV f,.own 3,.own 4,.nil],.row 4 (((allIns (g.take (k+1))).map (freshQ g rm)).map pipeV),.row 5 (((g.take (k+1)).map freshP).map procV)]
  rw [e1,e2]
  exact (by (refine wk_sel [some 0,some 1,some 2,some 3,some 6] rfl rfl ?_ ?_<;>(repeat' first|exact True.intro|exact rfl|exact .inl rfl|exact .inr rfl|refine And.intro ?_ ?_|fail)))
 ·have h:=of_decide_eq_true (by assumption:decide ((j:Int)<(g[k].ins.length:Int))=true)
  omega
 have hj2:j<g[k].ins.length:=by
  have h:=of_decide_eq_true (by assumption:decide ((j:Int)<(g[k].ins.length:Int))=true)
  omega
 obtain ⟨a,o,hpo,hal,-⟩:=hgf.port k hk2 j (by unfold nI;rw [ndG_at hk2];exact hj2)
 have hpj:g[k].ins[j]=⟨(a:Int),(o:Int)⟩:=by
  rw [←hpo]
  unfold inP
  rw [ndG_at hk2,List.getD_eq_getElem?_getD,List.getElem?_eq_getElem hj2]
  rfl
 have hag:a<g.length:=by omega
 have hfq:freshQ g rm g[k].ins[j]=⟨[],if g[a].kind=2 then 0 else rm,false,false⟩:=by
  rw [hpj]
  unfold freshQ
  dsimp only
  rw [Int.toNat_natCast,List.getD_eq_getElem?_getD,List.getElem?_eq_getElem hag]
  rfl
 conv=>whnf
 refine join_live [2,3,6,10,12,15,41,42,43,48,49,50] (σ:=Unit) (fun _=>[(15,.ptr 7 0 0)]) (fun _=>[.box [.sl nodeV g],.box [.nil,.nil,.nil,.nil,.nil],.box [.sl nodeV g,.sl fileV f,.own 3,.own 4,.nil],.row 4 (((allIns (g.take k)++g[k].ins.take j).map (freshQ g rm)).map pipeV),.row 5 (((g.take k).map freshP).map procV),.box (nodeV g[k]).cells,.box (portV g[k].ins[j]).cells,.box [.nil,.int .i64 (if g[a].kind=2 then 0 else rm),.lit false,.lit false]]) (fun _=>True) ?_
 conv=>whnf
 refine ⟨?_,fun _ _=>?_⟩
 ·conv=>whnf
  skip
  refine ⟨a,by rw [hpj],hag,rfl,?_⟩
  repeat' first|(refine fun (b:Bool) hb=>?_;cases b<;>first|exact absurd hb (by decide)|exact nfl hb|exact nfr hb|skip)|fail
  ·have h2:¬ g[a].kind=2:=of_decide_eq_false (by assumption)
   conv=>whnf
   skip
   rw [if_neg h2]
   exact ⟨(),(by (refine wk_sel [some 0,some 1,some 2,some 3,some 4,some 5,some 6,some 7] rfl rfl ?_ ?_<;>(repeat' first|exact True.intro|exact rfl|exact .inl rfl|exact .inr rfl|refine And.intro ?_ ?_|fail))),trivial⟩
  ·have h2:g[a].kind=2:=of_decide_eq_true (by assumption)
   conv=>whnf
   skip
   rw [if_pos h2]
   exact ⟨(),(by (refine wk_sel [some 0,some 1,some 2,some 3,some 4,some 5,some 6,some 7] rfl rfl ?_ ?_<;>(repeat' first|exact True.intro|exact rfl|exact .inl rfl|exact .inr rfl|refine And.intro ?_ ?_|fail))),trivial⟩
 conv=>whnf
 skip
 refine ⟨UInt8,byteV,?_⟩
 repeat' first|refine And.intro (a:=I64 _) ?_ ?_|refine And.intro (a:=_≤140737488355328) ?_ ?_|refine ⟨rfl,?_⟩|fail
 ·show ((((allIns (g.take k)++g[k].ins.take j).map (freshQ g rm)).map pipeV).length+1)*40≤140737488355328
  rw [List.length_map,List.length_map,List.length_append,List.length_take]
  omega
 ·unfold I64;omega
 refine ⟨j+1,?_,hj2,by omega⟩
 show Wk _ _ _ _ [.box [.sl nodeV g],.box [.nil,.nil,.nil,.nil,.nil],.box [.sl nodeV g,.sl fileV f,.own 3,.own 4,.nil],.row 4 (((allIns (g.take k)++g[k].ins.take (j+1)).map (freshQ g rm)).map pipeV),.row 5 (((g.take k).map freshP).map procV),.box (nodeV g[k]).cells]
 have e1:((allIns (g.take k)++g[k].ins.take (j+1)).map (freshQ g rm)).map pipeV=((allIns (g.take k)++g[k].ins.take j).map (freshQ g rm)).map pipeV++[.agg [.sl byteV [],.int .i64 (if g[a].kind=2 then 0 else rm),.bool false,.bool false]]:=by
  rw [List.take_succ_eq_append_getElem hj2,←List.append_assoc,List.map_append,List.map_append,List.map_cons,List.map_nil,hfq]
  rfl
 rw [e1]
 exact (by (refine wk_sel [some 0,some 1,some 2,some 9,some 4,some 5] rfl rfl ?_ ?_<;>(repeat' first|exact True.intro|exact rfl|exact .inl rfl|exact .inr rfl|refine And.intro ?_ ?_|fail)))
end Gv
namespace Gv
variable [Glob] [Laid]
theorem copyG_ca:callable Tryz.prog 151=true:=by kernel_rfl
def copyG_P:PSpec:=fun args rows K=>∃ (m:MachS),args=[machV m]∧copyZ m∧∀ Q,numK rows.length fun a=>numK (Nat.add rows.length 1) fun b=>appK rows [.row 4 (m.pipes.map pipeV),.row 5 (procEls Q m.p),.pack Q (subsOf m.p)] fun rows'=>K (.agg [.sl nodeV m.g,.sl fileV m.f,.own a,.own b,.sl byteV m.sunk]) rows'
theorem copyG_prim:PrimOK Tryz.prog 151 copyG_P:=by
 intro w0 m0 args rows K R m' q w us C hv hT
 obtain ⟨m,rfl,hz,hK⟩:=hT
 refine shift_ok (prim_cutA copyX_prim) C (vrl_agg hv rfl) ⟨m,rfl,rfl,hz,fun Q ex=>⟨[.row 4 (m.pipes.map pipeV),.row 5 (procEls Q m.p),.pack Q (subsOf m.p)],ex,_,rfl,Nat.zero_le _,?_,rfl,?_,?_,_,rfl,?_,?_⟩⟩
 ·intro y hy
  simp only [List.mem_cons,List.not_mem_nil,or_false] at hy
  rcases hy with rfl|rfl|rfl<;>rfl
 ·intro c hc
  simp only [List.mem_cons,List.not_mem_nil,or_false] at hc
  rcases hc with rfl|rfl|rfl|rfl|rfl
  ·exact .inl rfl
  ·exact .inl rfl
  ·exact .inr ⟨0,by simp,rfl⟩
  ·exact .inr ⟨1,by simp,rfl⟩
  ·exact .inl rfl
 ·intro y hy
  simp only [List.mem_cons,List.not_mem_nil,or_false] at hy
  rcases hy with rfl|rfl|rfl<;>rfl
 ·intro c hc
  simp only [List.mem_cons,List.not_mem_nil,or_false] at hc
  rcases hc with rfl|rfl|rfl|rfl|rfl
  ·exact .inl rfl
  ·exact .inl rfl
  ·exact .inr ⟨0,rfl⟩
  ·exact .inr ⟨1,rfl⟩
  ·exact .inl rfl
 ·exact appK_ok _ _ _ (numK_eq _ _ (numK_eq _ _ (hK Q)))
end Gv
namespace Gv
variable [Glob] [Laid] [Nums] [Errs]
def stepG_P:PSpec:=fun args rows K=>StepG stepZ args rows K
theorem stepG_prim:PrimOK Tryz.prog 152 stepG_P:=by
 exact step_among stepF_prim
end Gv
namespace Gv
variable [Glob] [Laid] [Nums] [Errs]
theorem stepH_ca:callable Tryz.prog 152=true:=by kernel_rfl
def stepH_P:PSpec:=fun args rows K=>∃ (m:MachS) (i r0 r1 r2 r3:Nat) (Q:Loc),args=[.ptr r0 0 0,.int .i64 i]∧rows[r0]?=some (.box [.sl nodeV m.g,.sl fileV m.f,.own r1,.own r2,.sl byteV m.sunk])∧rows[r1]?=some (.row 4 (m.pipes.map pipeV))∧rows[r2]?=some (.row 5 (procEls Q m.p))∧rows[r3]?=some (.pack Q (subsOf m.p))∧FocM m i∧stepZ m i∧setK rows r0 (.box [.sl nodeV (stepM m i).1.g,.sl fileV (stepM m i).1.f,.own r1,.own r2,.sl byteV (stepM m i).1.sunk]) fun a=>setK a r1 (.row 4 ((stepM m i).1.pipes.map pipeV)) fun b=>setK b r2 (.row 5 (procEls Q (stepM m i).1.p)) fun c=>setK c r3 (.pack Q (subsOf (stepM m i).1.p)) fun d=>K (.int .i64 (stepM m i).2) d
theorem stepH_prim:PrimOK Tryz.prog 152 stepH_P:=by
 intro w0 m0 args rows K R m' q w us C hv hT
 obtain ⟨m,i,r0,r1,r2,r3,Q,rfl,h0,h1,h2,h3,hF,hZ,hK⟩:=hT
 refine stepG_prim w0 m0 _ _ K R m' q w us C hv ⟨m,i,r0,r1,r2,r3,Q,rfl,h0,h1,h2,h3,hF.foc,hZ,?_⟩
 exact (setK_ok _ _ _ _ (setK_ok _ _ _ _ (setK_ok _ _ _ _ (setK_ok _ _ _ _ hK).2).2).2).2
end Gv
namespace Gv
variable [Glob] [Laid] [Nums] [Errs]
theorem runX_ca:callable Tryz.prog 87=true:=by kernel_rfl
def runX_S:Spec:=fun args K=>∃ (m:MachS) (l:List Int) (I:MachS→Prop),args=[machV m,.sl intV l]∧(checkMach m=0→copyZ m∧I m∧Steps I)∧K (.tup [machV (runP m l).1,.sl intV (runP m l).2.1,.int .i64 (runP m l).2.2])
noncomputable def runX_lib:List (Nat × Spec):=[(150,checkMX_S)]
noncomputable def runX_fns:List (Nat × FnI):=[(151,{ fn:=Tryz.f151,spec:=some copyG_P }),(152,{ fn:=Tryz.f152,spec:=some stepH_P })]
noncomputable def runX_prims:List (Nat × PSpec):=[]
theorem runX_E:EnvOK ⟨Tryz.prog,tys,runX_lib,runX_fns,runX_prims,[]⟩:=env_ok mixed0 tys0 (.cons checkMX_ca checkMX_ok .nil) (.told copyG_ca rfl copyG_prim (.told stepH_ca rfl stepH_prim .nil)) .nil rfl
theorem runX_ok:Pure Tryz.prog 87 runX_S:=by
 refine pure_by runX_E 6 (fi:={fn:=Tryz.f87,hooks:=[14,16],draws:=[]}) ⟨Tryz.func87,by kernel_rfl,by kernel_rfl⟩ ?_
 rintro _ K ⟨m,l,I,rfl,hI,hK⟩
 replace hK:∀ r,r=.tup [machV (runP m l).1,.sl intV (runP m l).2.1,.int .i64 (runP m l).2.2]→K r:=fun r h=>h ▸ hK
 skip
 refine ⟨m,rfl,?_⟩
 repeat' first|(refine fun (b:Bool) hb=>?_;cases b<;>first|exact absurd hb (by decide)|exact nfl hb|exact nfr hb|skip)|(refine fun (hl:_≤MAXL)=>?_)|fail
 rotate_left
 ·have h0:checkMach m=0:=by simpa using ‹(!decide (checkMach m=0))=false›
  have hl:40000<l.length:=by
   have h:=of_decide_eq_true (by assumption:decide (40000<(l.length:Int))=true)
   omega
  conv=>whnf
  skip
  refine ⟨Gp.Node,nodeV,?_⟩
  refine ⟨FileS,fileV,?_⟩
  refine ⟨PipeS,pipeV,?_⟩
  refine ⟨ProcS,procV,?_⟩
  refine ⟨UInt8,byteV,?_⟩
  refine ⟨Int,intV,?_⟩
  refine hK _ ?_
  unfold runP
  rw [if_neg (by rw [h0];decide),if_pos hl]
  rfl
 ·have h0:checkMach m≠0:=by simpa using ‹(!decide (checkMach m=0))=true›
  conv=>whnf
  skip
  refine ⟨Gp.Node,nodeV,?_⟩
  refine ⟨FileS,fileV,?_⟩
  refine ⟨PipeS,pipeV,?_⟩
  refine ⟨ProcS,procV,?_⟩
  refine ⟨UInt8,byteV,?_⟩
  refine ⟨Int,intV,?_⟩
  refine hK _ ?_
  unfold runP
  rw [if_pos h0]
  rfl
 have h0:checkMach m=0:=by simpa using ‹(!decide (checkMach m=0))=false›
 have hl:¬ 40000<l.length:=by
  have h:=of_decide_eq_false (by assumption:decide (40000<(l.length:Int))=false)
  omega
 obtain ⟨hz,hIm,hS⟩:=hI h0
 conv=>whnf
 skip
 refine ⟨m,rfl,hz,fun Q=>?_⟩
 conv=>whnf
 skip
 conv=>whnf
 skip
 refine join_live [2,4] (σ:=Unit) (fun _=>[(8,.own 5)]) (fun _=>[.box [.sl nodeV (runGo l m []).1.g,.sl fileV (runGo l m []).1.f,.own 2,.own 3,.sl byteV (runGo l m []).1.sunk],.box [.nil,.nil,.nil,.nil,.nil],.row 4 ((runGo l m []).1.pipes.map pipeV),.row 5 ((runGo l m []).1.p.map procV),.dead,.row 1 ((runGo l m []).2.map intV)]) (fun _=>True) ?_
 conv=>whnf
 refine ⟨?_,fun _ _=>?_⟩
 ·conv=>whnf
  repeat' first|(refine fun (hl:_≤MAXL)=>?_)|fail
  conv=>whnf
  refine loop_live [2,4,24,25] (σ:=Nat × MachS × List Int) (fun s=>[(26,.int .i64 s.1),(8,.own 5)]) (fun s=>[.box [.sl nodeV s.2.1.g,.sl fileV s.2.1.f,.own 2,.own 3,.sl byteV s.2.1.sunk],.box [.nil,.nil,.nil,.nil,.nil],.row 4 (s.2.1.pipes.map pipeV),.row 5 (procEls Q s.2.1.p),.pack Q (subsOf s.2.1.p),.row 1 (s.2.2.map intV)]) (fun s=>s.1≤l.length∧runGo (l.take s.1) m []=s.2∧I s.2.1) (fun s=>l.length-s.1) (0,m,[]) ?_
  conv=>whnf
  refine ⟨(by (refine wk_sel [some 0,some 1,some 2,some 3,some 4,none] rfl rfl ?_ ?_<;>(repeat' first|exact True.intro|exact rfl|exact .inl rfl|exact .inr rfl|refine And.intro ?_ ?_|fail))),⟨Nat.zero_le _,rfl,hIm⟩,fun s hs=>?_⟩
  obtain ⟨k,M,sd⟩:=s
  obtain ⟨hk,hgo,hIM⟩:=hs
  dsimp only at hk hgo hIM
  repeat' first|(refine fun (b:Bool) hb=>?_;cases b<;>first|exact absurd hb (by decide)|exact nfl hb|exact nfr hb|skip)|refine ⟨_,rfl,?_,rfl,?_⟩|fail
  ·have hkl:k=l.length := by
    have h:=of_decide_eq_false (by assumption:decide ((k:Int)<(l.length:Int))=false)
    omega
   subst hkl
   rw [List.take_length] at hgo
   refine ⟨(),?_,trivial⟩
   rw [hgo]
   exact (wk_pack 3 4 rfl rfl).trans (by (refine wk_sel [some 0,some 1,some 2,some 3,some 4,some 5] rfl rfl ?_ ?_<;>(repeat' first|exact True.intro|exact rfl|exact .inl rfl|exact .inr rfl|refine And.intro ?_ ?_|fail)))
  ·have h:=of_decide_eq_true (by assumption:decide ((k:Int)<(l.length:Int))=true)
   omega
  have hk2:k<l.length:=by
   have h:=of_decide_eq_true (by assumption:decide ((k:Int)<(l.length:Int))=true)
   omega
  have hnx:runGo (l.take (k+1)) m []=((pickM M l[k]).1,sd++[(pickM M l[k]).2]):=by
   rw [List.take_succ_eq_append_getElem hk2,runGo_snoc,hgo]
  conv=>whnf
  refine join_live [2,4,8,24,25,26] (σ:=Unit) (fun _=>[(11,.int .i64 (pickM M l[k]).2)]) (fun _=>[.box [.sl nodeV (pickM M l[k]).1.g,.sl fileV (pickM M l[k]).1.f,.own 2,.own 3,.sl byteV (pickM M l[k]).1.sunk],.box [.nil,.nil,.nil,.nil,.nil],.row 4 ((pickM M l[k]).1.pipes.map pipeV),.row 5 (procEls Q (pickM M l[k]).1.p),.pack Q (subsOf (pickM M l[k]).1.p),.row 1 (sd.map intV)]) (fun _=>True) ?_
  conv=>whnf
  refine ⟨?_,fun _ _=>?_⟩
  ·have hout:¬ (0≤l[k]∧l[k]<(M.p.length:Int))→pickM M l[k]=(M,5):=fun h=>by unfold pickM;rw [if_neg h]
   conv=>whnf
   repeat' first|(refine fun (b:Bool) hb=>?_;cases b<;>first|exact absurd hb (by decide)|exact nfl hb|exact nfr hb|skip)|(refine fun (hl:_≤MAXL)=>?_)|fail
   ·have hp:=hout (fun h=>of_decide_eq_false (by assumption:decide (0≤l[k])=false) h.1)
    conv=>whnf
    skip
    rw [hp]
    exact ⟨(),(by (refine wk_sel [some 0,some 1,some 2,some 3,some 4,some 5] rfl rfl ?_ ?_<;>(repeat' first|exact True.intro|exact rfl|exact .inl rfl|exact .inr rfl|refine And.intro ?_ ?_|fail))),trivial⟩
   ·have hp := hout (fun h => by
     have h2:=of_decide_eq_false (by assumption:decide (l[k]<((procEls Q M.p).length:Int))=false)
     rw [procEls_len] at h2
     exact h2 h.2)
    conv=>whnf
    skip
    rw [hp]
    exact ⟨(),(by (refine wk_sel [some 0,some 1,some 2,some 3,some 4,some 5] rfl rfl ?_ ?_<;>(repeat' first|exact True.intro|exact rfl|exact .inl rfl|exact .inr rfl|refine And.intro ?_ ?_|fail))),trivial⟩
   ·have h1:=of_decide_eq_true (by assumption:decide (0≤l[k])=true)
    have h2:=of_decide_eq_true (by assumption:decide (l[k]<((procEls Q M.p).length:Int))=true)
    rw [procEls_len] at h2
    obtain ⟨i,hi⟩:∃ i:Nat,l[k]=i:=⟨l[k].toNat,by omega⟩
    have hiM:i<M.p.length:=by omega
    have hp:pickM M l[k]=stepM M i:=by
     unfold pickM
     rw [if_pos ⟨h1,h2⟩,hi]
     rfl
    obtain ⟨hF,hZ,-⟩:=hS M hIM i hiM
    conv=>whnf
    skip
    refine ⟨M,i,0,2,3,4,Q,?_,rfl,rfl,rfl,rfl,hF,hZ,?_⟩
    ·show [V.ptr 0 0 0,V.int .i64 l[k]]=_
     rw [hi]
    conv=>whnf
    skip
    rw [hp]
    exact ⟨(),(by (refine wk_sel [some 0,some 1,some 2,some 3,some 4,some 5] rfl rfl ?_ ?_<;>(repeat' first|exact True.intro|exact rfl|exact .inl rfl|exact .inr rfl|refine And.intro ?_ ?_|fail))),trivial⟩
  have hIn:I (pickM M l[k]).1:=by
   unfold pickM
   split
   ·rename_i h
    exact (hS M hIM _ (by omega)).2.2
   ·exact hIM
  have hsl:sd.length=k:=by
   have:=runGo_len (l.take k) m []
   rw [hgo,List.length_take] at this
   simp at this
   omega
  conv=>whnf
  repeat' first|refine And.intro (a:=I64 _) ?_ ?_|refine And.intro (a:=_≤140737488355328) ?_ ?_|refine ⟨rfl,?_⟩|fail
  ·show ((sd.map intV).length+1)*8≤140737488355328
   rw [List.length_map]
   omega
  ·show I64 ((k:Int)+1)
   unfold I64;omega
  refine ⟨(k+1,(pickM M l[k]).1,sd++[(pickM M l[k]).2]),?_,⟨hk2,hnx,hIn⟩,by show l.length-(k+1)<l.length-k;omega⟩
  show Wk _ _ _ _ [.box [.sl nodeV (pickM M l[k]).1.g,.sl fileV (pickM M l[k]).1.f,.own 2,.own 3,.sl byteV (pickM M l[k]).1.sunk],.box [.nil,.nil,.nil,.nil,.nil],.row 4 ((pickM M l[k]).1.pipes.map pipeV),.row 5 (procEls Q (pickM M l[k]).1.p),.pack Q (subsOf (pickM M l[k]).1.p),.row 1 ((sd++[(pickM M l[k]).2]).map intV)]
  rw [List.map_append]
  exact (by (refine wk_sel [some 0,some 1,some 2,some 3,some 4,some 7] rfl rfl ?_ ?_<;>(repeat' first|exact True.intro|exact rfl|exact .inl rfl|exact .inr rfl|refine And.intro ?_ ?_|fail)))
 conv=>whnf
 repeat' first|refine ⟨_,_,_,LeL.refl _,?_⟩|fail
 conv=>whnf
 refine hK _ ?_
 unfold runP
 rw [if_neg (by rw [h0];decide),if_neg hl]
 rfl
end Gv
namespace Gv
variable [Glob] [Laid] [Nums] [Errs]
theorem finX_ca:callable Tryz.prog 88=true:=by kernel_rfl
def finX_S:Spec:=fun args K=>∃ (m:MachS) (n:Nat) (rr:MachS × Int) (I:MachS→Prop),args=[machV m]∧((checkMach m=0→copyZ m∧I m∧Steps I∧FinN n m rr)∧(checkMach m≠0→rr=(zM,checkMach m)))∧K (.tup [machV rr.1,.int .i64 rr.2])
noncomputable def finX_lib:List (Nat × Spec):=[(150,checkMX_S)]
noncomputable def finX_fns:List (Nat × FnI):=[(151,{ fn:=Tryz.f151,spec:=some copyG_P }),(152,{ fn:=Tryz.f152,spec:=some stepH_P })]
noncomputable def finX_prims:List (Nat × PSpec):=[]
theorem finX_E:EnvOK ⟨Tryz.prog,tys,finX_lib,finX_fns,finX_prims,[]⟩:=env_ok mixed0 tys0 (.cons checkMX_ca checkMX_ok .nil) (.told copyG_ca rfl copyG_prim (.told stepH_ca rfl stepH_prim .nil)) .nil rfl
theorem finX_ok:Pure Tryz.prog 88 finX_S:=by
 refine pure_by finX_E 6 (fi:={fn:=Tryz.f88,hooks:=[10,12,13],draws:=[]}) ⟨Tryz.func88,by kernel_rfl,by kernel_rfl⟩ ?_
 rintro _ K ⟨m,n,rr,I,rfl,⟨hI,hJ⟩,hK⟩
 replace hK:∀ r,r=.tup [machV rr.1,.int .i64 rr.2]→K r:=fun r h=>h ▸ hK
 skip
 refine ⟨m,rfl,?_⟩
 repeat' first|(refine fun (b:Bool) hb=>?_;cases b<;>first|exact absurd hb (by decide)|exact nfl hb|exact nfr hb|skip)|fail
 rotate_left
 ·have h0:checkMach m≠0:=by simpa using ‹(!decide (checkMach m=0))=true›
  conv=>whnf
  skip
  refine ⟨Gp.Node,nodeV,?_⟩
  refine ⟨FileS,fileV,?_⟩
  refine ⟨PipeS,pipeV,?_⟩
  refine ⟨ProcS,procV,?_⟩
  refine ⟨UInt8,byteV,?_⟩
  refine hK _ ?_
  rw [hJ h0]
  rfl
 have h0:checkMach m=0:=by simpa using ‹(!decide (checkMach m=0))=false›
 obtain ⟨hz,hIm,hS,hF⟩:=hI h0
 conv=>whnf
 skip
 refine ⟨m,rfl,hz,fun Q=>?_⟩
 conv=>whnf
 skip
 conv=>whnf
 refine loop_live [1,2] (σ:=Nat × MachS) (fun s=>[]) (fun s=>[.box [.sl nodeV s.2.g,.sl fileV s.2.f,.own 2,.own 3,.sl byteV s.2.sunk],.box [.nil,.nil,.nil,.nil,.nil],.row 4 (s.2.pipes.map pipeV),.row 5 (procEls Q s.2.p),.pack Q (subsOf s.2.p)]) (fun s=>FinN s.1 s.2 rr∧I s.2) (fun s=>s.1) (n,m) ?_
 conv=>whnf
 refine ⟨(by (refine wk_sel [some 0,some 1,some 2,some 3,some 4] rfl rfl ?_ ?_<;>(repeat' first|exact True.intro|exact rfl|exact .inl rfl|exact .inr rfl|refine And.intro ?_ ?_|fail))),⟨hF,hIm⟩,fun s hs=>?_⟩
 obtain ⟨n,M⟩:=s
 obtain ⟨hF,hIM⟩:=hs
 dsimp only at hF hIM
 conv=>whnf
 skip
 conv=>whnf
 refine join_live [1,2] (σ:=MachS × Bool × Bool) (fun s=>[(5,.bool s.2.1),(6,.bool s.2.2)]) (fun s=>[.box [.sl nodeV s.1.g,.sl fileV s.1.f,.own 2,.own 3,.sl byteV s.1.sunk],.box [.nil,.nil,.nil,.nil,.nil],.row 4 (s.1.pipes.map pipeV),.row 5 (procEls Q s.1.p),.pack Q (subsOf s.1.p)]) (fun s=>s=rnd M∧I s.1) ?_
 conv=>whnf
 refine ⟨?_,fun s hs=>?_⟩
 ·conv=>whnf
  repeat' first|(refine fun (hl:_≤MAXL)=>?_)|fail
  conv=>whnf
  refine loop_live [1,2,18] (σ:=Nat × MachS × Bool × Bool) (fun s=>[(5,.bool s.2.2.1),(6,.bool s.2.2.2),(19,.int .i64 s.1)]) (fun s=>[.box [.sl nodeV s.2.1.g,.sl fileV s.2.1.f,.own 2,.own 3,.sl byteV s.2.1.sunk],.box [.nil,.nil,.nil,.nil,.nil],.row 4 (s.2.1.pipes.map pipeV),.row 5 (procEls Q s.2.1.p),.pack Q (subsOf s.2.1.p)]) (fun s=>s.1≤M.p.length∧rndGo ((List.range M.p.length).drop s.1) s.2=rnd M∧I s.2.1∧s.2.1.p.length=M.p.length) (fun s=>M.p.length-s.1) (0,M,true,false) ?_
  conv=>whnf
  refine ⟨(by (refine wk_sel [some 0,some 1,some 2,some 3,some 4] rfl rfl ?_ ?_<;>(repeat' first|exact True.intro|exact rfl|exact .inl rfl|exact .inr rfl|refine And.intro ?_ ?_|fail))),⟨Nat.zero_le _,rfl,hIM,rfl⟩,fun s hs=>?_⟩
  obtain ⟨k,N,ov,wt⟩:=s
  obtain ⟨hk,hgo,hIN,hNl⟩:=hs
  dsimp only at hk hgo hIN hNl
  repeat' first|(refine fun (b:Bool) hb=>?_;cases b<;>first|exact absurd hb (by decide)|exact nfl hb|exact nfr hb|skip)|fail
  ·have hkl:k=M.p.length := by
    have h:=of_decide_eq_false (by assumption:decide ((k:Int)<((procEls Q M.p).length:Int))=false)
    rw [procEls_len] at h
    omega
   subst hkl
   rw [List.drop_eq_nil_of_le (by rw [List.length_range];exact Nat.le_refl _)] at hgo
   refine ⟨(N,ov,wt),(by (refine wk_sel [some 0,some 1,some 2,some 3,some 4] rfl rfl ?_ ?_<;>(repeat' first|exact True.intro|exact rfl|exact .inl rfl|exact .inr rfl|refine And.intro ?_ ?_|fail))),⟨hgo,hIN⟩⟩
  have hk2:k<M.p.length:=by
   have h:=of_decide_eq_true (by assumption:decide ((k:Int)<((procEls Q M.p).length:Int))=true)
   rw [procEls_len] at h
   omega
  have hkN:k<N.p.length:=by omega
  obtain ⟨hFo,hZo,hIo⟩:=hS N hIN k hkN
  have hdr:(List.range M.p.length).drop k=k::(List.range M.p.length).drop (k+1):=by
   rw [List.drop_eq_getElem_cons (by rw [List.length_range];exact hk2),List.getElem_range]
  rw [hdr,rndGo] at hgo
  dsimp only at hgo
  have hNl2:=stepM_len N k hkN
  have hpat:(procEls Q (stepM N k).1.p)[k]?=some (procEl Q k (pr (stepM N k).1 k)):=procEls_at (by rw [pr_at (by omega)];exact List.getElem?_eq_getElem _)
  conv=>whnf
  refine join_live [1,2,5,7,18,19] (σ:=Unit) (fun _=>[(6,.bool (decide ((stepM N k).2=0) || wt)),(7,.int .i64 k)]) (fun _=>[.box [.sl nodeV (stepM N k).1.g,.sl fileV (stepM N k).1.f,.own 2,.own 3,.sl byteV (stepM N k).1.sunk],.box [.nil,.nil,.nil,.nil,.nil],.row 4 ((stepM N k).1.pipes.map pipeV),.row 5 (procEls Q (stepM N k).1.p),.pack Q (subsOf (stepM N k).1.p)]) (fun _=>True) ?_
  conv=>whnf
  refine ⟨?_,fun _ _=>?_⟩
  ·conv=>whnf
   skip
   refine ⟨N,k,0,2,3,4,Q,rfl,rfl,rfl,rfl,rfl,hFo,hZo,?_⟩
   conv=>whnf
   repeat' first|(refine fun (b:Bool) hb=>?_;cases b<;>first|exact absurd hb (by decide)|exact nfl hb|exact nfr hb|skip)|fail
   ·have hb0:decide ((stepM N k).2=0)=false:=by assumption
    conv=>whnf
    skip
    rw [hb0]
    exact ⟨(),(by (refine wk_sel [some 0,some 1,some 2,some 3,some 4] rfl rfl ?_ ?_<;>(repeat' first|exact True.intro|exact rfl|exact .inl rfl|exact .inr rfl|refine And.intro ?_ ?_|fail))),trivial⟩
   ·have hb0:decide ((stepM N k).2=0)=true:=by assumption
    conv=>whnf
    skip
    rw [hb0]
    exact ⟨(),(by (refine wk_sel [some 0,some 1,some 2,some 3,some 4] rfl rfl ?_ ?_<;>(repeat' first|exact True.intro|exact rfl|exact .inl rfl|exact .inr rfl|refine And.intro ?_ ?_|fail))),trivial⟩
  have hI64:I64 ((k:Int)+1):=by
   have hM:(procEls Q M.p).length≤MAXL:=by assumption
   rw [procEls_len] at hM
   unfold MAXL at hM;unfold I64;omega
  conv=>whnf
  repeat' first|(refine fun (b:Bool) hb=>?_;cases b<;>first|exact absurd hb (by decide)|exact nfl hb|exact nfr hb|skip)|refine And.intro (a:=I64 _) ?_ ?_|refine ⟨rfl,?_⟩|fail
  ·exact hI64
  ·have ho:ov=false:=by assumption
   subst ho
   refine ⟨(k+1,(stepM N k).1,false,decide ((stepM N k).2=0) || wt),(by (refine wk_sel [some 0,some 1,some 2,some 3,some 4] rfl rfl ?_ ?_<;>(repeat' first|exact True.intro|exact rfl|exact .inl rfl|exact .inr rfl|refine And.intro ?_ ?_|fail))),⟨hk2,hgo,hIo,by show (stepM N k).1.p.length=_;omega⟩,by show M.p.length-(k+1)<M.p.length-k;omega⟩
  ·have ho:ov=true:=by assumption
   subst ho
   refine ⟨k,rfl,by rw [procEls_len];omega,?_⟩
   conv=>whnf
   refine ⟨_,hpat,?_⟩
   conv=>whnf
   repeat' first|refine And.intro (a:=I64 _) ?_ ?_|fail
   ·exact hI64
   refine ⟨(k+1,(stepM N k).1,(pr (stepM N k).1 k).over,decide ((stepM N k).2=0) || wt),(by (refine wk_sel [some 0,some 1,some 2,some 3,some 4] rfl rfl ?_ ?_<;>(repeat' first|exact True.intro|exact rfl|exact .inl rfl|exact .inr rfl|refine And.intro ?_ ?_|fail))),⟨hk2,hgo,hIo,by show (stepM N k).1.p.length=_;omega⟩,by show M.p.length-(k+1)<M.p.length-k;omega⟩
 obtain ⟨N,ov,wt⟩:=s
 obtain ⟨hs',hIN⟩:=hs
 dsimp only at hIN
 conv=>whnf
 refine join_live [1,2,6] (σ:=Bool) (fun s=>[(38,.bool ov)]) (fun s=>match s with|true=>[.box [.sl nodeV N.g,.sl fileV N.f,.own 2,.own 3,.sl byteV N.sunk],.box [.nil,.nil,.nil,.nil,.nil],.row 4 (N.pipes.map pipeV),.row 5 (N.p.map procV),.dead]|false=>[.box [.sl nodeV N.g,.sl fileV N.f,.own 2,.own 3,.sl byteV N.sunk],.box [.nil,.nil,.nil,.nil,.nil],.row 4 (N.pipes.map pipeV),.row 5 (procEls Q N.p),.pack Q (subsOf N.p)]) (fun s=>s=ov) ?_
 conv=>whnf
 refine ⟨?_,fun s hs=>?_⟩
 ·conv=>whnf
  skip
  cases ov
  ·exact ⟨false,(by (refine wk_sel [some 0,some 1,some 2,some 3,some 4] rfl rfl ?_ ?_<;>(repeat' first|exact True.intro|exact rfl|exact .inl rfl|exact .inr rfl|refine And.intro ?_ ?_|fail))),rfl⟩
  ·exact ⟨true,(wk_pack 3 4 rfl rfl).trans (by (refine wk_sel [some 0,some 1,some 2,some 3,some 4] rfl rfl ?_ ?_<;>(repeat' first|exact True.intro|exact rfl|exact .inl rfl|exact .inr rfl|refine And.intro ?_ ?_|fail))),rfl⟩
 subst hs
 have e1:(rnd M).1=N:=by rw [←hs']
 have e2:(rnd M).2.1=s:=by rw [←hs']
 have e3:(rnd M).2.2=wt:=by rw [←hs']
 cases s
 ·conv=>whnf
  repeat' first|(refine fun (b:Bool) hb=>?_;cases b<;>first|exact absurd hb (by decide)|exact nfl hb|exact nfr hb|skip)|fail
  ·have hw:wt=true := by
    have h:(!wt)=false:=by assumption
    simpa using h
   subst hw
   cases hF with
   | over h=>rw [e2] at h;cases h
   | stuck h h2=>rw [e3] at h2;cases h2
   | @more _ n' _ h h2 h3 =>
    rw [e1] at h3
    conv=>whnf
    refine ⟨(n',N),(by (refine wk_sel [some 0,some 1,some 2,some 3,some 4] rfl rfl ?_ ?_<;>(repeat' first|exact True.intro|exact rfl|exact .inl rfl|exact .inr rfl|refine And.intro ?_ ?_|fail))),⟨h3,hIN⟩,by show n'<n'+1;omega⟩
  ·have hw:wt=false := by
    have h:(!wt)=true:=by assumption
    simpa using h
   subst hw
   cases hF with
   | over h=>rw [e2] at h;cases h
   | more h h2 h3=>rw [e3] at h2;cases h2
   | stuck h h2 =>
    conv=>whnf
    skip
    refine ⟨Gp.Node,nodeV,?_⟩
    refine ⟨FileS,fileV,?_⟩
    refine ⟨PipeS,pipeV,?_⟩
    refine ⟨ProcS,procV,?_⟩
    refine ⟨UInt8,byteV,?_⟩
    exact hK _ rfl
 ·conv=>whnf
  repeat' first|refine ⟨_,_,_,LeL.refl _,?_⟩|(refine fun (b:Bool) hb=>?_;cases b<;>first|exact absurd hb (by decide)|exact nfl hb|exact nfr hb|skip)|fail
  cases hF with
  | stuck h h2=>rw [e2] at h;cases h
  | more h h2 h3=>rw [e2] at h;cases h
  | over h =>
   conv=>whnf
   refine hK _ ?_
   rw [e1]
   rfl
end Gv
namespace Gv
variable [Glob] [Laid] [Nums] [Errs]
theorem planD_ok {l:LineS} {w:Int} {r:List Gp.Node × Int} (hr:plan l w=r) (h0:r.2=0):checkLine l=0∧(1≤w∧w≤5)∧r=(planNodes l w,0):=by
 unfold plan at hr
 split at hr
 ·rename_i h1
  rw [←hr] at h0
  exact absurd h0 h1
 ·rename_i h1
  split at hr
  ·rw [←hr] at h0
   exact absurd h0 (show ¬ (3:Int)=0 by decide)
  ·exact ⟨Decidable.not_not.1 h1,by omega,hr.symm⟩
theorem newD_ok {g:List Gp.Node} {f:List FileS} {rm:Int} {r:MachS × Int} (hr:newP g f rm=r) (h0:r.2=0):checkG g=0∧checkFiles f=0∧(1≤rm∧rm≤1000)∧r=(freshM g f rm,0):=by
 unfold newP at hr
 split at hr
 ·rename_i h1
  rw [←hr] at h0
  exact absurd h0 h1
 ·rename_i h1
  split at hr
  ·rename_i h2
   rw [←hr] at h0
   exact absurd h0 h2
  ·rename_i h2
   split at hr
   ·rw [←hr] at h0
    exact absurd h0 (show ¬ (3:Int)=0 by decide)
   ·exact ⟨Decidable.not_not.1 h1,Decidable.not_not.1 h2,by omega,hr.symm⟩
theorem stepsD {g:List Gp.Node} {f:List FileS} {rm:Int} (hg:checkG g=0) (h:∀ m,Ok f g rm m→checkMach m=0):Steps (Ok f g rm):=fun m hm i hi=>by
 have R:=right_of (h m hm)
 obtain ⟨h1,h2⟩:=right_foc R hi
 refine ⟨h1,h2,ok_step hm (gf_of hg) ?_⟩
 have:=hm.sh.np
 omega
structure GoesD (g:List Gp.Node) (f:List FileS) (rm:Int) (v:Bs):Prop where
 fresh:Ok f g rm (freshM g f rm)
 steps:Steps (Ok f g rm)
 ck:∀ m,Ok f g rm m→checkMach m=0
 fin:∀ m,Ok f g rm m→∃ n M,FinN n m (M,0)∧Ok f g rm M∧(∀ i,i<g.length→(pr M i).over=true)∧M.sunk=v
theorem goesD {g:List Gp.Node} {f:List FileS} {rm:Int} (hg:checkG g=0) (h4:cnt 1 g≤4) (hf:checkFiles f=0) (h1:1≤rm∧rm≤1000):GoesD g f rm (evalG g f).1:=by
 obtain ⟨e1,e2,e3⟩:=exec_law hg h4 hf h1
 exact ⟨e1,stepsD hg fun m hm=>(e2 m hm).1,fun m hm=>(e2 m hm).1,fun m hm=>(e2 m hm).2.2.1⟩
end Gv
namespace Gv
variable [Glob] [Laid] [Nums] [Errs]
theorem eval_plan {l:LineS} {w:Int} {F:List FileS} (hc:checkLine l=0) (h5:1≤w∧w≤5) (hg:(gatherS F l.frm).2=0):evalG (planNodes l w) F=(put (doLines l.cmds (linesOf (gatherS F l.frm).1)),0):=by
 obtain ⟨g1,g2,g3,g4,g5,g6,g7⟩:=gather_val hg
 obtain ⟨h1,v,h2,h3⟩:=plan_makes hc h5 F
 unfold evalG
 rw [if_neg (by rw [h1];decide),if_neg (by rw [g1];decide),h2,g7,h3 g5]
 rfl
def driveS (F:List FileS) (l:LineS) (w rm:Int) (n:Nat):Bs × Int :=
 if (plan l w).2≠0 then ([],(plan l w).2) else if (gatherS F l.frm).2≠0 then ([],(gatherS F l.frm).2) else if rm<1∨1000<rm then ([],3) else if 40000<n then ([],2) else (put (doLines l.cmds (linesOf (gatherS F l.frm).1)),0)
theorem drive_shell {F:List FileS} {l:LineS} {w rm:Int} {n:Nat} (h5:1≤w∧w≤5) (hr:1≤rm∧rm≤1000) (hn:n≤40000):driveS F l w rm n=shellLine F l:=by
 unfold driveS
 by_cases hc:checkLine l=0
 ·have hp:(plan l w).2=0 := by
   unfold plan
   rw [if_neg (by rw [hc];decide),if_neg (by omega)]
  rw [if_neg (by rw [hp];decide)]
  by_cases hg:(gatherS F l.frm).2=0
  ·rw [if_neg (by rw [hg];decide),if_neg (by omega),if_neg (by omega),shell_line hc hg]
  ·rw [if_pos hg]
   unfold shellLine
   rw [if_neg (by rw [hc];decide),if_pos hg]
 ·have hp:(plan l w).2=checkLine l := by
   unfold plan
   rw [if_pos hc]
  rw [hp,if_pos hc]
  unfold shellLine
  rw [if_pos hc]
theorem runL_same {L L':List FileS→LineS→Bs × Int} (h:∀ F x,L F x=L' F x) (F:List FileS) (s:List LineS):runL L F s=runL L' F s:=by
 have:L=L':=funext fun F=>funext fun x=>h F x
 rw [this]
end Gv
namespace Gv
variable [Glob] [Laid]
def joinFor (c:Cmd):Int × Int:=if checkCmd c=0 then (howFor c,0) else (0,checkCmd c)
theorem for_ca:callable Tryz.prog 67=true:=by kernel_rfl
def for_S:Spec:=fun args K=>∃ (k:Int) (s:Bs) (n:Int),args=[.agg [.int .i64 k,.str s,.int .i64 n]]∧K (.tup [.int .i64 (joinFor ⟨k,s,n⟩).1,.int .i64 (joinFor ⟨k,s,n⟩).2])
noncomputable def for_lib:List (Nat × Spec):=[(31,ccheck_S)]
noncomputable def for_fns:List (Nat × FnI):=[]
noncomputable def for_prims:List (Nat × PSpec):=[]
theorem for_E:EnvOK ⟨Tryz.prog,tys,for_lib,for_fns,for_prims,[]⟩:=env_ok mixed0 tys0 (.cons ccheck_ca ccheck_ok .nil) .nil .nil rfl
theorem for_ok:Pure Tryz.prog 67 for_S:=by
 refine pure_by for_E 6 (fi:={fn:=Tryz.f67,hooks:=[],draws:=[]}) ⟨Tryz.func67,by kernel_rfl,by kernel_rfl⟩ ?_
 rintro _ K ⟨k,s,n,rfl,hK⟩
 replace hK:∀ r,r=.tup [.int .i64 (joinFor ⟨k,s,n⟩).1,.int .i64 (joinFor ⟨k,s,n⟩).2]→K r:=fun r h=>h ▸ hK
 refine ⟨k,s,n,rfl,?_⟩
 unfold joinFor howFor at hK
 generalize checkCmd ⟨k,s,n⟩=c at hK ⊢
 repeat' first|(refine fun (b:Bool) hb=>?_;cases b<;>first|exact absurd hb (by decide)|exact nfl hb|exact nfr hb|skip)|fail
 all_goals (refine hK _ ?_;grind)
end Gv
