/- What functions of the program come to, part 2: in every world; the conditions stand in each theorem. -/
import Derived.Test.YtffljdmmambdjacGreatDoorF1
set_option linter.unusedVariables false
set_option linter.unusedSectionVars false
set_option linter.unusedSimpArgs false
set_option maxHeartbeats 16000000
open Go Go.Proofs Gw Gp
namespace Gv
variable [Glob] [Laid] [Nums] [Errs]
theorem qoy_:callable Tryz.prog 67=true:=by kernel_rfl
def makeP_P:PSpec:=fun args rows K=>∃ (n:Gp.Node) (f:List FileS) (ins:List Bs),args=[nodeV n,.sl fileV f,.own 0]∧rows=[.row 1 (ins.map blV)]∧(checkN n=0∧n.ins.length=ins.length∧ins.flatten.length≤500000000∧∀ x∈f,x.b.length≤4000)∧(∀ ex,makeN n f ins=[]→K .nil (.row 1 (ins.map blV)::ex))∧(∀ ex,K (.sl blV (makeN n f ins)) (.row 1 (ins.map blV)::ex))∧(∀ b,K (.own 2) [.row 1 (ins.map blV),b,.row 1 ((makeN n f ins).map blV)])∧(∀ b c,K (.own 3) [.row 1 (ins.map blV),b,c,.row 1 ((makeN n f ins).map blV)])
noncomputable def makeP_lib:List (Nat × Spec):=[(77,bytesF_S),(90,linesL_S),(93,put_S),(129,splitLines_S),(91,linesC_S),(130,joinL_S)]
noncomputable def makeP_fns:List (Nat × FnI):=[]
noncomputable def makeP_prims:List (Nat × PSpec):=[]
theorem qsj_:EnvOK ⟨Tryz.prog,tys,makeP_lib,makeP_fns,makeP_prims,[]⟩:=qf_ mixed0 tys0 (.cons qng_ ql6_ (.cons qfo_ qfm_ (.cons ql5_ ql7_ (.cons qc9_ qdo_ (.cons qbb_ qak_ (.cons qpw_ qqq_ .nil)))))) .nil .nil rfl
theorem qkb_:PrimOK Tryz.prog 67 makeP_P:=by
 refine q3_ qsj_ 6 qoy_ (fi:={fn:=Tryz.f67,hooks:=[],draws:=[(5,[0,1,3,7,0,16,63,127]),(7,[0,1,0,4,12,28,63,127,255,511])]}) ⟨Tryz.func67,by kernel_rfl,by kernel_rfl⟩ ?_
 rintro args rows K ⟨n,f,ins,rfl,rfl,⟨hn,hil,hfl,hf⟩,hK1,hK2,hK3,hK4⟩
 have hgi:∀ {j:Nat} (h:j<ins.length),(ins.map blV)[j]?=some (blV ins[j]):=fun h=>by rw [List.getElem?_map,List.getElem?_eq_getElem h];rfl
 have hmk:makeN n f ins=makeN n f ins:=rfl
 conv at hmk=>(rhs;unfold makeN)
 rw [hmk] at hK1 hK2 hK3 hK4
 clear hmk
 have hshp:=qu_ hn
 have hfa:=wb_ hf n.file
 have hpf:=q6_ (fileAt f n.file)
 have hb0:=x5_ ins 0
 have hg0:∀ h:0<ins.length,ins.getD 0 []=ins[0]:=fun h=>by rw [List.getD_eq_getElem?_getD,List.getElem?_eq_getElem h];rfl
 have hp1:=q6_ (ins.getD 0 [])
 have hl1:=q4_ (ins.getD 0 [])
 have hel:=xh_ (ins.getD 0 [])
 repeat' first|exact True.intro|(refine fun (b:Bool) hb=>?_;cases b<;>first|exact absurd hb (by decide)|exact nfl hb|exact nfr hb|skip)|(refine fun (hl:_≤MAXL)=>?_)|refine ⟨_,⟨rfl,rfl⟩,?_⟩|refine And.intro (a:=chkPast _ _ _ _ _ _ _ _) ?_ ?_|fail
 ·have k1:¬ n.kind=1:=of_decide_eq_false (by assumption)
  have k2:¬ n.kind=2:=of_decide_eq_false (by assumption)
  have k3:¬ n.kind=3:=of_decide_eq_false (by assumption)
  have k4:¬ n.kind=4:=of_decide_eq_false (by assumption)
  rw [if_neg k1,if_neg k2,if_neg k3,if_neg k4] at hK1
  conv=>whnf
  exact hK1 _ rfl
 ·have k4:n.kind=4:=of_decide_eq_true (by assumption)
  rw [if_neg (by omega),if_neg (by omega),if_neg (by omega),if_pos k4] at hK4
  conv=>whnf
  refine qb_ [3,43,44] (σ:=Nat × List (List Bs)) (fun s=>[(45,.int .i64 s.1),(7,.own 2)]) (fun s=>[.row 1 (ins.map blV),.box (nodeV n).cells,.row 1 (s.2.map lsV)]) (fun s=>s.1≤ins.length∧s.2=(ins.take s.1).map linesOf) (fun s=>ins.length-s.1) (0,[]) ?_
  conv=>whnf
  refine ⟨(by (refine qc_ [some 0,some 1,none] rfl rfl ?_ ?_<;>(repeat' first|exact True.intro|exact rfl|exact .inl rfl|exact .inr rfl|refine And.intro ?_ ?_|fail))),⟨Nat.zero_le _,by simp⟩,fun s hs=>?_⟩
  obtain ⟨i,ls⟩:=s
  obtain ⟨hi,hls⟩:=hs
  dsimp only at hi hls
  repeat' first|refine ⟨_,_,_,LeL.refl _,?_⟩|(refine fun (b:Bool) hb=>?_;cases b<;>first|exact absurd hb (by decide)|exact nfl hb|exact nfr hb|skip)|refine ⟨rfl,?_⟩|fail
  ·have hge:¬ (i:Int)<(ins.length:Int) := by
    have h:=of_decide_eq_false (by assumption:decide ((i:Int)<((ins.map blV).length:Int))=false)
    rwa [List.length_map] at h
   rw [List.take_of_length_le (by omega)] at hls
   subst hls
   have hpf2:=w7_ ins
   have hpl:=vx_ (l:=(ins.map linesOf).flatten) (n:=600000000) (by omega)
   have hjc:checkJoin n.how n.c=0:=by
    rcases hshp with h|h|h|h|h
    ·omega
    ·omega
    ·omega
    ·exact h.2.2.2
    ·omega
   have hjp:=v9_ (zm_ hjc).1 (ins.map linesOf) (by rw [List.length_map];omega) (by omega)
   conv=>whnf
   refine ⟨n.how,n.c,ins.map linesOf,rfl,⟨(zm_ hjc).1,by rw [List.length_map];omega,by omega,fun l hl s hsl=>?_⟩,?_⟩
   ·have:=qr3_ (List.mem_flatten.2 ⟨l,hl,hsl⟩)
    omega
   refine ⟨joinB n.how n.c (ins.map linesOf),rfl,by omega,?_⟩
   conv=>whnf
   exact hK4 _ _
  have hlt:i<ins.length:=by
   have h:=of_decide_eq_true (by assumption:decide ((i:Int)<((ins.map blV).length:Int))=true)
   rw [List.length_map] at h
   omega
  refine ⟨i,rfl,by rw [List.length_map];exact hlt,?_⟩
  conv=>whnf
  refine ⟨_,hgi hlt,?_⟩
  repeat' first|refine And.intro (a:=I64 _) ?_ ?_|refine And.intro (a:=_≤140737488355328) ?_ ?_|refine ⟨_,rfl,?_,rfl,?_⟩|fail
  ·have:=v7_ (List.getElem_mem hlt)
   show ins[i].length≤1000000000
   omega
  ·show ((ls.map lsV).length+1)*24≤140737488355328
   rw [List.length_map,hls,List.length_map,List.length_take]
   omega
  ·unfold I64;(try dsimp only);omega
  refine ⟨(i+1,ls++[linesOf ins[i]]),?_,⟨hlt,?_⟩,by show ins.length-(i+1)<ins.length-i;omega⟩
  ·show Wk _ _ _ _ [.row 1 (ins.map blV),.box (nodeV n).cells,.row 1 ((ls++[linesOf ins[i]]).map lsV)]
   rw [List.map_append]
   exact (by (refine qc_ [some 0,some 1,some 4] rfl rfl ?_ ?_<;>(repeat' first|exact True.intro|exact rfl|exact .inl rfl|exact .inr rfl|refine And.intro ?_ ?_|fail)))
  ·show ls++[linesOf ins[i]]=(ins.take (i+1)).map linesOf
   rw [List.take_succ_eq_append_getElem hlt,List.map_append,hls]
   rfl
 ·have k3:n.kind=3:=of_decide_eq_true (by assumption)
  have h0:0<ins.length:=by omega
  have hc:checkCmd n.c=0:=by
   rcases hshp with h|h|h|h|h
   ·omega
   ·omega
   ·exact h.2.2
   ·omega
   ·omega
  rw [if_neg (by omega),if_neg (by omega),if_pos k3] at hK2
  rw [hg0 h0] at hb0 hp1 hl1 hel hK2
  have hlp:=zl_ hc (linesOf ins[0]) (by omega)
  conv=>whnf
  apply Exists.intro
  apply And.intro
  ·refine ⟨rfl,0,rfl,by rw [List.length_map];exact h0,?_⟩
   exact ⟨rfl,rfl⟩
  conv=>whnf
  refine ⟨trivial,?_⟩
  conv=>whnf
  apply Exists.intro
  apply And.intro
  ·conv=>whnf
   refine ⟨_,hgi h0,?_⟩
   repeat' first|refine ⟨rfl,?_⟩|fail
   exact rfl
  conv=>whnf
  refine ⟨trivial,?_⟩
  conv=>whnf
  apply Exists.intro
  apply And.intro
  ·refine ⟨ins[0],rfl,by omega,?_⟩
   exact ⟨rfl,rfl⟩
  skip
  apply Exists.intro
  apply And.intro
  ·refine ⟨n.c,linesOf ins[0],rfl,⟨hc,by omega,fun s hs=>by have:=hel s hs;omega⟩,?_⟩
   exact ⟨rfl,rfl⟩
  skip
  apply Exists.intro
  apply And.intro
  ·refine ⟨linesC n.c (linesOf ins[0]),rfl,by omega,?_⟩
   exact ⟨rfl,rfl⟩
  skip
  refine ⟨_,⟨Bs,blV,[put (linesC n.c (linesOf ins[0]))],LeL.refl _,rfl,rfl⟩,?_⟩
  repeat' first|refine ⟨_,⟨rfl,rfl⟩,?_⟩|fail
  conv=>whnf
  exact hK2 _
 ·have k2:n.kind=2:=of_decide_eq_true (by assumption)
  have h0:0<ins.length:=by omega
  obtain ⟨w,hw⟩:∃ w:Nat,n.wide=w:=⟨n.wide.toNat,by omega⟩
  rw [if_neg (by omega),if_pos k2] at hK2
  rw [hg0 h0] at hb0 hp1 hl1 hel hK2
  rw [hw,Int.toNat_natCast] at hK2
  conv=>whnf
  apply Exists.intro
  apply And.intro
  ·refine ⟨rfl,0,rfl,by rw [List.length_map];exact h0,?_⟩
   exact ⟨rfl,rfl⟩
  conv=>whnf
  refine ⟨trivial,?_⟩
  conv=>whnf
  apply Exists.intro
  apply And.intro
  ·conv=>whnf
   refine ⟨_,hgi h0,?_⟩
   repeat' first|refine ⟨rfl,?_⟩|fail
   exact rfl
  conv=>whnf
  refine ⟨trivial,?_⟩
  conv=>whnf
  apply Exists.intro
  apply And.intro
  ·refine ⟨ins[0],rfl,by omega,?_⟩
   exact ⟨rfl,rfl⟩
  repeat' first|exact True.intro|refine ⟨_,⟨rfl,rfl⟩,?_⟩|refine And.intro (a:=chkPast _ _ _ _ _ _ _ _) ?_ ?_|fail
  apply Exists.intro
  apply And.intro
  ·refine ⟨linesOf ins[0],w,by rw [hw],⟨by omega,by omega,by omega⟩,?_⟩
   exact ⟨rfl,rfl⟩
  repeat' first|refine ⟨_,⟨rfl,rfl⟩,?_⟩|fail
  conv=>whnf
  exact hK2 _
 ·have k1:n.kind=1:=of_decide_eq_true (by assumption)
  rw [if_pos k1] at hK3
  conv=>whnf
  refine ⟨f,n.file,rfl,fun x hx=>by have:=hf x hx;omega,?_⟩
  refine ⟨fileAt f n.file,rfl,by omega,?_⟩
  refine ⟨linesOf (fileAt f n.file),rfl,by omega,?_⟩
  skip
  conv=>whnf
  exact hK3 _
end Gv
namespace Gv
variable [Glob] [Laid] [Nums] [Errs]
def makeD_P:PSpec:=fun args rows K=>∃ (n:Gp.Node) (f:List FileS) (ins:List Bs),args=[nodeV n,.sl fileV f,.own 0]∧rows=[.row 1 (ins.map blV)]∧(checkN n=0∧n.ins.length=ins.length∧ins.flatten.length≤500000000∧∀ x∈f,x.b.length≤4000)∧∀ ex,K (.sl blV (makeN n f ins)) (.row 1 (ins.map blV)::ex)
theorem qjc_:PrimOK Tryz.prog 67 makeD_P:=by
 intro w0 m0 args rows K R m q w us C hv hT
 obtain ⟨n,f,ins,rfl,rfl,hc,hK⟩:=hT
 refine qpi_ qkb_ w0 m0 _ _ K R m q w us C hv (.inr ⟨n,f,ins,rfl,rfl,hc,fun ex he=>?_,fun ex=>?_,fun b=>?_,fun b c=>?_⟩)
 ·refine ⟨Bs,blV,?_⟩
  have:=hK ex
  rw [he] at this
  exact this
 ·exact hK ex
 ·refine ⟨Bs,blV,makeN n f ins,LeL.refl _,?_⟩
  exact hK _
 ·refine ⟨Bs,blV,makeN n f ins,LeL.refl _,?_⟩
  exact hK _
end Gv
namespace Gv
variable [Glob] [Laid] [Nums] [Errs]
def makeE_P:PSpec:=fun args rows K=>∃ (n:Gp.Node) (f:List FileS) (ins:List Bs),args=[nodeV n,.sl fileV f,.own 0]∧rows=[.row 1 (ins.map blV)]∧(checkN n=0∧n.ins.length=ins.length∧ins.flatten.length≤500000000∧∀ x∈f,x.b.length≤4000)∧K (.sl blV (makeN n f ins)) [.row 1 (ins.map blV)]
theorem qj7_:PrimOK Tryz.prog 67 makeE_P:=by
 intro w0 m0 args rows K R m q w us C hv hT
 obtain ⟨n,f,ins,rfl,rfl,hc,hK⟩:=hT
 exact qp2_ qjc_ w0 m0 _ _ K R m q w us C hv ⟨n,f,ins,rfl,rfl,hc,fun ex=>⟨[.row 1 (ins.map blV)],ex,rfl,Nat.le_refl _,fun y hy=>by simp at hy;subst hy;rfl,rfl,hK⟩⟩
end Gv
namespace Gv
variable [Glob] [Laid] [Nums] [Errs]
theorem qps_ (a:List Bs):catL a []=a:=by cases a<;>rfl
theorem qfd_:∀ (a b:List Bs) (k:Nat) (hk:k<a.length) (hb:k<b.length),(catL a (b.take k)).set k (a[k]++b[k])=catL a (b.take (k+1))
 | x::r,y::s,0,_,_=>by simp [catL,qps_]
 | x::r,y::s,k+1,hk,hb=>by
  have:=qfd_ r s k (by simpa using hk) (by simpa using hb)
  simp only [List.take_succ_cons,catL,List.set_cons_succ,List.getElem_cons_succ]
  rw [this]
theorem qda_:callable Tryz.prog 163=true:=by kernel_rfl
def fullF_P:PSpec:=fun args rows K=>∃ (m:MachS) (i:Nat) (els:List V),args=[.ptr 0 0 0,.int .i64 i]∧FocOK m i els∧(pr m i).got.flatten.length≤500000000∧rows=focR m i els∧∀ ex,K (.tup []) (focR (fullM m i) i els++ex)
noncomputable def fullF_lib:List (Nat × Spec):=[(214,concatB_S)]
noncomputable def fullF_fns:List (Nat × FnI):=[]
noncomputable def fullF_prims:List (Nat × PSpec):=[(67,makeE_P)]
theorem qs8_:EnvOK ⟨Tryz.prog,tys,fullF_lib,fullF_fns,fullF_prims,[]⟩:=qf_ mixed0 tys0 (.cons zw_ z0_ .nil) .nil (.cons qj7_ .nil) rfl
theorem qcs_:PrimOK Tryz.prog 163 fullF_P:=by
 refine q3_ qs8_ 6 qda_ (fi:={fn:=Tryz.f163,hooks:=[1,7],draws:=[(0,[0,1,3,7,0,31,0,64,192,448,960,0,4032,8128,0,16447,65535]),(2,[0,0,2,6,14,0,32,96,224,511,1023,0]),(5,[0,1,3,7,0,0,32,96,224,0,992,2016,0,8160,16352,32767,65535])]}) ⟨Tryz.func163,by kernel_rfl,by kernel_rfl⟩ ?_
 rintro args rows K ⟨m,i,els,rfl,h,hsz,rfl,hK⟩
 have hei:(els.set i (procF (pr m i)))[i]?=some (procF (pr m i)):=List.getElem?_set_self (by rw [h.nl];exact h.lt)
 have hel:(els.set i (procF (pr m i))).length=m.g.length:=by rw [List.length_set,h.nl]
 have hpe:=h.pe
 have hgf:=gf_of h.g
 have hnd:ndG m.g i=m.g[i]'(h.lt):=qt_ h.lt
 unfold focR
 conv=>whnf
 refine qd_ [0] (σ:=Unit) (fun _=>[(4,.ptr 2 i 0),(5,.ptr 5 0 0)]) (fun _=>[.box [.sl nodeV m.g,.sl fileV m.f,.own 1,.own 2,.sl byteV m.sunk],.row 4 (m.pipes.map pipeV),.rowq 5 (els.set i (procF (pr m i))),.row 1 ((pr m i).got.map blV),.row 1 ((pr m i).out.map blV),.box (nodeV (ndG m.g i)).cells]) (fun _=>True) ?_
 conv=>whnf
 refine ⟨?_,fun _ _=>?_⟩
 ·conv=>whnf
  repeat' first|exact True.intro|refine ⟨_,⟨rfl,rfl⟩,?_⟩|refine And.intro (a:=chkPast _ _ _ _ _ _ _ _) ?_ ?_|fail
  conv=>whnf
  apply Exists.intro
  apply And.intro
  ·repeat' first|refine ⟨_,rfl,?_,rfl,?_⟩|refine ⟨rfl,?_⟩|fail
   ·rw [hel];exact h.lt
   ·exact rfl
  conv=>whnf
  refine ⟨trivial,?_⟩
  conv=>whnf
  repeat' first|exact True.intro|refine ⟨_,⟨rfl,rfl⟩,?_⟩|refine ⟨_,_,⟨rfl,rfl⟩,?_⟩|refine And.intro (a:=chkPend _ _ _ _ _ _) ?_ ?_|refine And.intro (a:=chkPast _ _ _ _ _ _ _ _) ?_ ?_|refine ⟨⟨rfl,rfl⟩,?_⟩|refine ⟨_,⟨_,rfl,?_,rfl,rfl,rfl⟩,?_⟩|fail
  conv=>whnf
  skip
  ·exact h.lt
  ·conv=>whnf
   refine ⟨?_,?_⟩
   ·conv=>whnf
    refine ⟨rfl,i,rfl,by rw [hel];exact h.lt,?_⟩
    exact ⟨rfl,rfl⟩
   ·conv=>whnf
    repeat' first|exact True.intro|refine ⟨⟨rfl,rfl⟩,?_⟩|fail
    all_goals done
  conv=>whnf
  rw [hnd]
  exact ⟨(),(by (refine qc_ [some 0,some 1,some 2,some 3,some 4,some 5] rfl rfl ?_ ?_<;>(repeat' (first|exact qg_ hpe rfl rfl|exact True.intro|exact rfl|exact Or.inl rfl|exact Or.inr rfl|refine And.intro ?_ ?_|fail)))),trivial⟩
 have hset:∀ x y:V,(els.set i x).set i y=els.set i y:=fun x y=>by rw [List.set_set]
 conv=>whnf
 refine ⟨_,hei,?_⟩
 conv=>whnf
 refine qd_ [4] (σ:=Unit) (fun _=>[]) (fun _=>[.box [.sl nodeV m.g,.sl fileV m.f,.own 1,.own 2,.sl byteV m.sunk],.row 4 (m.pipes.map pipeV),.rowq 5 (els.set i (procF ⟨(pr m i).got,(pr m i).pos,(pr m i).out,true,(pr m i).over⟩)),.row 1 ((pr m i).got.map blV),.row 1 ((catL (pr m i).out (makeN (ndG m.g i) m.f (pr m i).got)).map blV)]) (fun _=>True) ?_
 conv=>whnf
 refine ⟨?_,fun _ _=>?_⟩
 ·conv=>whnf
  repeat' first|exact True.intro|refine ⟨_,⟨rfl,rfl⟩,?_⟩|refine And.intro (a:=chkPast _ _ _ _ _ _ _ _) ?_ ?_|fail
  conv=>whnf
  apply Exists.intro
  apply And.intro
  ·conv=>whnf
   refine ⟨_,List.getElem?_set_self (by rw [hel];exact h.lt),?_⟩
   repeat' first|refine ⟨rfl,?_⟩|fail
   exact rfl
  conv=>whnf
  refine ⟨trivial,?_⟩
  conv=>whnf
  have hcn:checkN (ndG m.g i)=0:=hgf.node i h.lt
  have hil:(ndG m.g i).ins.length=(pr m i).got.length:=h.got.symm
  have hfb:∀ x∈m.f,x.b.length≤4000:=fun x hx=>((q8_ h.f).2 x hx).2
  have hml:=qae_ hcn hil hfb hsz
  have hmo:=vs_ (f:=m.f) (ins:=(pr m i).got) hcn
  apply Exists.intro
  apply Exists.intro
  apply And.intro
  ·refine ⟨ndG m.g i,m.f,(pr m i).got,rfl,rfl,⟨hcn,hil,hsz,hfb⟩,?_⟩
   repeat' first|refine ⟨rfl,?_⟩|fail
   exact rfl
  conv=>whnf
  repeat' first|exact True.intro|refine ⟨_,⟨rfl,rfl⟩,?_⟩|refine ⟨_,(fun _=>⟨rfl,rfl⟩),?_⟩|refine And.intro (a:=chkPend _ _ _ _ _ _) ?_ ?_|fail
  conv=>whnf
  refine qb_ [4,35,36] (σ:=Nat) (fun k=>[(37,.int .i64 k)]) (fun k=>[.box [.sl nodeV m.g,.sl fileV m.f,.own 1,.own 2,.sl byteV m.sunk],.row 4 (m.pipes.map pipeV),.rowq 5 (els.set i (procF ⟨(pr m i).got,(pr m i).pos,(pr m i).out,true,(pr m i).over⟩)),.row 1 ((pr m i).got.map blV),.row 1 ((catL (pr m i).out ((makeN (ndG m.g i) m.f (pr m i).got).take k)).map blV)]) (fun k=>k≤(makeN (ndG m.g i) m.f (pr m i).got).length) (fun k=>(makeN (ndG m.g i) m.f (pr m i).got).length-k) 0 ?_
  conv=>whnf
  refine ⟨?_,Nat.zero_le _,fun k hk=>?_⟩
  ·have hc0:catL (pr m i).out ((makeN (ndG m.g i) m.f (pr m i).got).take 0)=(pr m i).out:=by rw [List.take_zero];cases (pr m i).out<;>rfl
   rw [hset,hc0]
   refine qc_ [some 0,some 1,some 2,some 3,some 4] rfl rfl ?_ ?_<;>(repeat' (first|exact ye_ hpe ⟨rfl,rfl,rfl,Or.inr rfl,rfl,trivial⟩|exact True.intro|exact rfl|exact Or.inl rfl|exact Or.inr rfl|refine And.intro ?_ ?_|fail))
   all_goals done
  repeat' first|(refine fun (b:Bool) hb=>?_;cases b<;>first|exact absurd hb (by decide)|exact nfl hb|exact nfr hb|skip)|refine ⟨_,⟨rfl,rfl⟩,?_⟩|refine ⟨_,rfl,?_,rfl,?_⟩|fail
  ·have hkl:k=(makeN (ndG m.g i) m.f (pr m i).got).length := by
    have h:=of_decide_eq_false (by assumption:decide ((k:Int)<((makeN (ndG m.g i) m.f (pr m i).got).length:Int))=false)
    omega
   subst hkl
   refine ⟨(),?_,trivial⟩
   rw [List.take_length]
   exact (by (refine qc_ [some 0,some 1,some 2,some 3,some 4] rfl rfl ?_ ?_<;>(repeat' (first|exact qg_ hpe rfl rfl|exact True.intro|exact rfl|exact Or.inl rfl|exact Or.inr rfl|refine And.intro ?_ ?_|fail))))
  ·have h:=of_decide_eq_true (by assumption:decide ((k:Int)<((makeN (ndG m.g i) m.f (pr m i).got).length:Int))=true)
   exact (by omega:k<(makeN (ndG m.g i) m.f (pr m i).got).length)
  have hk2:k<(makeN (ndG m.g i) m.f (pr m i).got).length:=by
   have h:=of_decide_eq_true (by assumption:decide ((k:Int)<((makeN (ndG m.g i) m.f (pr m i).got).length:Int))=true)
   omega
  have hko:k<(pr m i).out.length:=by
   have h1:=h.out
   unfold nO at h1
   omega
  have hcl:k<(catL (pr m i).out ((makeN (ndG m.g i) m.f (pr m i).got).take k)).length:=by rw [yk_];exact hko
  have hgc:((catL (pr m i).out ((makeN (ndG m.g i) m.f (pr m i).got).take k)).map blV)[k]?=some (blV (pr m i).out[k]):=by
   rw [List.getElem?_map,List.getElem?_eq_getElem hcl]
   have h1:=qhh_ (pr m i).out ((makeN (ndG m.g i) m.f (pr m i).got).take k) k hko
   rw [List.getD_eq_getElem?_getD,List.getElem?_eq_getElem hcl,List.getD_eq_getElem?_getD,List.getElem?_eq_getElem hko,List.getD_eq_getElem?_getD,List.getElem?_eq_none (by rw [List.length_take];omega)] at h1
   simp only [Option.getD_some,Option.getD_none,List.append_nil] at h1
   rw [h1];rfl
  conv=>whnf
  apply Exists.intro
  apply And.intro
  ·conv=>whnf
   refine ⟨_,List.getElem?_set_self (by rw [h.nl];exact h.lt),?_⟩
   repeat' first|refine ⟨rfl,?_⟩|fail
   exact rfl
  conv=>whnf
  refine ⟨trivial,?_⟩
  conv=>whnf
  repeat' first|refine ⟨_,⟨rfl,rfl⟩,?_⟩|fail
  conv=>whnf
  apply Exists.intro
  apply And.intro
  ·conv=>whnf
   refine ⟨_,List.getElem?_set_self (by rw [h.nl];exact h.lt),?_⟩
   repeat' first|refine ⟨rfl,?_⟩|fail
   exact rfl
  conv=>whnf
  refine ⟨trivial,?_⟩
  conv=>whnf
  repeat' first|refine ⟨_,⟨rfl,rfl⟩,?_⟩|fail
  conv=>whnf
  apply Exists.intro
  apply And.intro
  ·refine ⟨rfl,k,rfl,by rw [List.length_map];exact hcl,?_⟩
   exact ⟨rfl,rfl⟩
  conv=>whnf
  refine ⟨trivial,?_⟩
  conv=>whnf
  apply Exists.intro
  apply And.intro
  ·conv=>whnf
   refine ⟨_,hgc,?_⟩
   repeat' first|refine ⟨rfl,?_⟩|fail
   exact rfl
  conv=>whnf
  refine ⟨trivial,?_⟩
  conv=>whnf
  repeat' first|refine ⟨_,⟨rfl,rfl⟩,?_⟩|fail
  conv=>whnf
  refine ⟨_,⟨Bs,blV,[(pr m i).out[k],(makeN (ndG m.g i) m.f (pr m i).got)[k]],LeL.refl _,rfl,rfl⟩,?_⟩
  skip
  have hol:((pr m i).out[k]).length≤400000000:=h.big _ (List.mem_append_right _ (List.getElem_mem hko))
  have hnl:=v7_ (List.getElem_mem hk2)
  apply Exists.intro
  apply And.intro
  ·refine ⟨[(pr m i).out[k],(makeN (ndG m.g i) m.f (pr m i).got)[k]],rfl,?_,?_⟩
   ·simp only [List.flatten_cons,List.flatten_nil,List.append_nil,List.length_append]
    omega
   ·exact ⟨rfl,rfl⟩
  conv=>whnf
  apply Exists.intro
  apply And.intro
  ·refine ⟨rfl,k,rfl,by rw [List.length_map];exact hcl,?_⟩
   exact ⟨rfl,rfl⟩
  conv=>whnf
  refine ⟨trivial,?_⟩
  conv=>whnf
  apply Exists.intro
  apply Exists.intro
  apply And.intro
  ·conv=>whnf
   refine ⟨by rw [List.length_map];exact hcl,?_⟩
   exact ⟨rfl,rfl⟩
  conv=>whnf
  repeat' first|exact True.intro|refine And.intro (a:=I64 _) ?_ ?_|refine And.intro (a:=chkPend _ _ _ _ _ _) ?_ ?_|fail
  conv=>whnf
  skip
  ·have hM:=(yk_ (pr m i).out ((makeN (ndG m.g i) m.f (pr m i).got).take k))
   have ho:=(qy_ hcn).2
   omega
  refine ⟨k+1,?_,by omega,by omega⟩
  have hst:=qfd_ (pr m i).out (makeN (ndG m.g i) m.f (pr m i).got) k hko hk2
  have he:[(pr m i).out[k],(makeN (ndG m.g i) m.f (pr m i).got)[k]].flatten=(pr m i).out[k]++(makeN (ndG m.g i) m.f (pr m i).got)[k]:=by simp
  rw [←hst,List.map_set,←he]
  exact (by (refine qc_ [some 0,some 1,some 2,some 3,some 4] rfl rfl ?_ ?_<;>(repeat' (first|exact qg_ hpe rfl rfl|exact True.intro|exact rfl|exact Or.inl rfl|exact Or.inr rfl|refine And.intro ?_ ?_|fail))))
 have hei2:(els.set i (procF ⟨(pr m i).got,(pr m i).pos,(pr m i).out,true,(pr m i).over⟩))[i]?=some (procF ⟨(pr m i).got,(pr m i).pos,(pr m i).out,true,(pr m i).over⟩):=List.getElem?_set_self (by rw [h.nl];exact h.lt)
 conv=>whnf
 refine ⟨_,hei2,?_⟩
 conv=>whnf
 repeat' first|(refine fun (hl:_≤MAXL)=>?_)|fail
 conv=>whnf
 refine qb_ [4,63] (σ:=Nat) (fun k=>[(64,.int .i64 k)]) (fun k=>[.box [.sl nodeV m.g,.sl fileV m.f,.own 1,.own 2,.sl byteV m.sunk],.row 4 (m.pipes.map pipeV),.rowq 5 (els.set i (procF ⟨(pr m i).got,(pr m i).pos,(pr m i).out,true,(pr m i).over⟩)),.row 1 ((List.replicate k []++(pr m i).got.drop k).map blV),.row 1 ((catL (pr m i).out (makeN (ndG m.g i) m.f (pr m i).got)).map blV)]) (fun k=>k≤(pr m i).got.length) (fun k=>(pr m i).got.length-k) 0 ?_
 conv=>whnf
 refine ⟨(by (refine qc_ [some 0,some 1,some 2,some 3,some 4] rfl rfl ?_ ?_<;>(repeat' (first|exact qg_ hpe rfl rfl|exact True.intro|exact rfl|exact Or.inl rfl|exact Or.inr rfl|refine And.intro ?_ ?_|fail)))),Nat.zero_le _,fun k hk=>?_⟩
 have hgl:(List.replicate k ([]:Bs)++(pr m i).got.drop k).length=(pr m i).got.length:=by simp;omega
 repeat' first|(refine fun (b:Bool) hb=>?_;cases b<;>first|exact absurd hb (by decide)|exact nfl hb|exact nfr hb|skip)|fail
 ·have hkl:k=(pr m i).got.length := by
   have h:=of_decide_eq_false (by assumption:decide ((k:Int)<(((pr m i).got.map blV).length:Int))=false)
   rw [List.length_map] at h
   omega
  subst hkl
  conv=>whnf
  have hpi:pr (fullM m i) i=fullP (ndG m.g i) m.f (pr m i):=by
   unfold fullM
   rw [z9_ (by rw [h.np];exact h.lt),if_pos rfl]
  have hrep:(pr m i).got.map (fun _=>([]:Bs))=List.replicate (pr m i).got.length []++(pr m i).got.drop (pr m i).got.length:=by
   rw [List.drop_length,List.append_nil,List.map_const']
  have e:focR (fullM m i) i els=[.box [.sl nodeV m.g,.sl fileV m.f,.own 1,.own 2,.sl byteV m.sunk],.row 4 (m.pipes.map pipeV),.rowq 5 (els.set i (procF ⟨(pr m i).got,(pr m i).pos,(pr m i).out,true,(pr m i).over⟩)),.row 1 ((List.replicate (pr m i).got.length ([]:Bs)++(pr m i).got.drop (pr m i).got.length).map blV),.row 1 ((catL (pr m i).out (makeN (ndG m.g i) m.f (pr m i).got)).map blV)]:=by
   unfold focR
   rw [hpi,←hrep]
   rfl
  have hfin:=hK []
  rw [e] at hfin
  exact hfin
 have hk2:k<(pr m i).got.length:=by
  have h:=of_decide_eq_true (by assumption:decide ((k:Int)<(((pr m i).got.map blV).length:Int))=true)
  rw [List.length_map] at h
  omega
 conv=>whnf
 refine ⟨_,hei2,?_⟩
 repeat' first|refine ⟨rfl,?_⟩|fail
 refine ⟨k,rfl,by rw [List.length_map,hgl];exact hk2,?_⟩
 conv=>whnf
 refine ⟨by rw [List.length_map,hgl];exact hk2,?_⟩
 repeat' first|refine And.intro (a:=I64 _) ?_ ?_|fail
 ·have hM:((pr m i).got.map blV).length≤MAXL:=by assumption
  rw [List.length_map] at hM
  unfold I64;unfold MAXL at hM;omega
 refine ⟨k+1,?_,by omega,by omega⟩
 have hset2:(List.replicate k ([]:Bs)++(pr m i).got.drop k).set k []=List.replicate (k+1) []++(pr m i).got.drop (k+1):=by
  rw [List.set_append_right _ _ (by simp),List.length_replicate,Nat.sub_self,List.drop_eq_getElem_cons hk2,List.set_cons_zero,List.replicate_succ']
  simp
 rw [←hset2]
 exact (wk_le 3 rfl (qgg_ k)).trans (by (refine qc_ [some 0,some 1,some 2,some 3,some 4] rfl rfl ?_ ?_<;>(repeat' (first|exact qg_ hpe rfl rfl|exact True.intro|exact rfl|exact Or.inl rfl|exact Or.inr rfl|refine And.intro ?_ ?_|fail))))
end Gv
namespace Gv
variable [Glob] [Laid]
theorem qn9_ {l:Bs} (h:(10:UInt8) ∉ l):comp l=[]:=(qft_ (a:=[]) (.inl rfl) h).1
theorem qrc_ {l:Bs} {j:Nat} (hj:j<l.length) (h:l[j]=10) (hn:(10:UInt8) ∉ l.drop (j+1)):comp l=l.take (j+1):=by
 have e:l=l.take (j+1)++l.drop (j+1):=(List.take_append_drop _ _).symm
 have he:ended (l.take (j+1)):=by
  right
  rw [List.take_succ_eq_append_getElem hj,h]
  simp
 have:=(qft_ he hn).1
 rwa [List.take_append_drop] at this
theorem zo_ (l:Bs):(comp l).length≤l.length∧l.take (comp l).length=comp l∧l.drop (comp l).length=rest l:=by
 have h:=qag_ l
 refine ⟨by conv => rhs; rw [← h, List.length_append]
            omega,?_,?_⟩
 ·conv=>lhs;arg 2;rw [←h]
  rw [List.take_left]
 ·conv=>lhs;arg 2;rw [←h]
  rw [List.drop_left]
theorem qpq_:callable Tryz.prog 251=true:=by kernel_rfl
def lastB_S:Spec:=fun args K=>∃ (l:Bs),args=[.sl byteV l,.int .u8 10]∧K (.int .i64 (((comp l).length:Int)-1))
noncomputable def lastB_lib:List (Nat × Spec):=[]
noncomputable def lastB_fns:List (Nat × FnI):=[]
noncomputable def lastB_prims:List (Nat × PSpec):=[]
theorem qta_:EnvOK ⟨Tryz.prog,tys,lastB_lib,lastB_fns,lastB_prims,[]⟩:=qf_ mixed0 tys0 .nil .nil .nil rfl
theorem qq3_:Pure Tryz.prog 251 lastB_S:=by
 refine qe_ qta_ 6 (fi:={fn:=Tryz.f251,hooks:=[],draws:=[]}) ⟨Tryz.func251,by kernel_rfl,by kernel_rfl⟩ ?_
 rintro _ K ⟨l,rfl,hK⟩
 replace hK:∀ r,r=.int .i64 (((comp l).length:Int)-1)→K r:=fun r h=>h ▸ hK
 repeat' first|(refine fun (hl:_≤MAXL)=>?_)|refine And.intro (a:=I64 _) ?_ ?_|fail
 ·have hM:l.length≤MAXL:=by assumption
  unfold I64;unfold MAXL at hM;omega
 conv=>whnf
 refine qb_ [0,1] (σ:=Nat) (fun j=>[(5,.int .i64 ((j:Int)-1))]) (fun _=>[]) (fun j=>j≤l.length∧(10:UInt8) ∉ l.drop j) (fun j=>j) l.length ?_
 conv=>whnf
 refine ⟨(by (refine qc_ [] rfl rfl ?_ ?_<;>(repeat' first|exact True.intro|exact rfl|exact .inl rfl|exact .inr rfl|refine And.intro ?_ ?_|fail))),⟨Nat.le_refl _,by simp⟩,fun j hj=>?_⟩
 obtain ⟨hj,hn⟩:=hj
 repeat' first|(refine fun (b:Bool) hb=>?_;cases b<;>first|exact absurd hb (by decide)|exact nfl hb|exact nfr hb|skip)|fail
 ·have h0:j=0 := by
   have h:=of_decide_eq_false (by assumption:decide (0≤(j:Int)-1)=false)
   omega
  subst h0
  conv=>whnf
  refine hK _ ?_
  rw [qn9_ (by simpa using hn)]
  rfl
 have h0:0<j:=by
  have h:=of_decide_eq_true (by assumption:decide (0≤(j:Int)-1)=true)
  omega
 obtain ⟨k,rfl⟩:∃ k,j=k+1:=⟨j-1,by omega⟩
 conv=>whnf
 refine ⟨k,by omega,hj,?_⟩
 repeat' first|(refine fun (b:Bool) hb=>?_;cases b<;>first|exact absurd hb (by decide)|exact nfl hb|exact nfr hb|skip)|refine And.intro (a:=I64 _) ?_ ?_|refine ⟨rfl,?_⟩|fail
 ·have hM:l.length≤MAXL:=by assumption
  unfold I64;unfold MAXL at hM;omega
 ·refine ⟨k,?_,⟨by omega,?_⟩,by omega⟩
  ·show Wk _ _ _ ([(5,.int .i64 ((k:Int)-1))]++_) _
   rw [show (k:Int)-1=((k+1:Nat):Int)-1-1 by omega]
   exact (by (refine qc_ [] rfl rfl ?_ ?_<;>(repeat' first|exact True.intro|exact rfl|exact .inl rfl|exact .inr rfl|refine And.intro ?_ ?_|fail)))
  ·rw [List.drop_eq_getElem_cons hj]
   intro h
   rcases List.mem_cons.1 h with h|h
   ·have h2:=of_decide_eq_false (by assumption:decide ((l[k].toNat:Int)=10)=false)
    rw [←h] at h2
    exact h2 rfl
   ·exact hn h
 ·have h2:=of_decide_eq_true (by assumption:decide ((l[k].toNat:Int)=10)=true)
  have h3:l[k]=10:=by
   apply UInt8.toNat.inj
   have:(10:UInt8).toNat=10:=rfl
   omega
  conv=>whnf
  refine hK _ ?_
  rw [qrc_ hj h3 hn,List.length_take,Nat.min_eq_left hj]
end Gv
namespace Gv
variable [Glob] [Laid]
theorem qnc_:callable Tryz.prog 216=true:=by kernel_rfl
def countB_S:Spec:=fun args K=>∃ (l:List UInt8),args=[.sl byteV l,.sl byteV [10]]∧K (.int .i64 ((l.count 10:Nat):Int))
theorem qlm_:Pure Tryz.prog 216 countB_S:=by
 refine qen_ fun w m args us K hm hg hl hv hT=>?_
 obtain ⟨l,rfl,hK⟩:=hT
 obtain ⟨a,b,rfl,ha,hb⟩:=args2 hl hv
 obtain ⟨p,c,rfl,hp,hlc,hc,hx⟩:=yg_ ha hm
 obtain ⟨p2,c2,rfl,hp2,hlc2,hc2,hx2⟩:=yg_ hb hm
 refine ⟨_,_,hK,.int,?_⟩
 match p2,hp2,hx2 with
 | none,hp2,_=>exact absurd (hp2 rfl).1 (by simp)
 | some ⟨b2,o2,sp2⟩,_,hx2 =>
  obtain ⟨h1,h2⟩:=hx2 b2 o2 sp2 rfl
  have hs:sp2=none:=h1.resolve_right (by simp)
  subst hs
  have h3:=h2 0 (by simp)
  have h4:w.cell? ⟨b2,o2,none⟩=some (.int .u8 10):=by simpa [Addr.add,numsOf] using h3
  match p,hp,hx with
  | none,hp,_ =>
   obtain ⟨rfl,rfl⟩:=hp rfl
   exact (Tryz.bytes_Count_one_nil b2 o2 c2 10 w h4).mono fun e w' ⟨he,hw⟩=>⟨by rw [he];rfl,by subst hw;exact Bel.refl _ _⟩
  | some ⟨b1,o1,sp1⟩,_,hx =>
   refine (Tryz.bytes_Count_one_at ⟨b1,o1,sp1⟩ l.length c b2 o2 c2 (numsOf l) 10 w (vl_ l) (fun i hi=>(hx b1 o1 sp1 rfl).2 i hi) h4).mono fun e w' ⟨he,hw⟩=>⟨by rw [he,wn_];rfl,by subst hw;exact Bel.refl _ _⟩
end Gv
namespace Gv
variable [Glob] [Laid]
theorem qsf_:callable Tryz.prog 73=true:=by kernel_rfl
def each_S:Spec:=fun args K=>∃ (k:Int) (s:Bs) (n:Int),args=[.agg [.int .i64 k,.str s,.int .i64 n]]∧K (.bool (each ⟨k,s,n⟩))
noncomputable def each_lib:List (Nat × Spec):=[]
noncomputable def each_fns:List (Nat × FnI):=[]
noncomputable def each_prims:List (Nat × PSpec):=[]
theorem quq_:EnvOK ⟨Tryz.prog,tys,each_lib,each_fns,each_prims,[]⟩:=qf_ mixed0 tys0 .nil .nil .nil rfl
theorem qs9_:Pure Tryz.prog 73 each_S:=by
 refine qe_ quq_ 6 (fi:={fn:=Tryz.f73,hooks:=[],draws:=[]}) ⟨Tryz.func73,by kernel_rfl,by kernel_rfl⟩ ?_
 rintro _ K ⟨k,s,n,rfl,hK⟩
 replace hK:∀ r,r=.bool (each ⟨k,s,n⟩)→K r:=fun r h=>h ▸ hK
 repeat' first|(refine fun (b:Bool) hb=>?_;cases b<;>first|exact absurd hb (by decide)|exact nfl hb|exact nfr hb|skip)|fail
 all_goals (refine hK _ ?_;simp only [each];congr 1;grind)
end Gv
namespace Gv
variable [Glob] [Laid]
def pipeShut (p:PipeS):PipeS × Int:=if pipeCheck p≠0 then (noPipe,pipeCheck p) else (⟨[],p.room,p.closed,true⟩,0)
theorem qt9_:callable Tryz.prog 217=true:=by kernel_rfl
def shut_S:Spec:=fun args K=>∃ p,args=[pipeV p]∧K (.tup [pipeV (pipeShut p).1,.int .i64 (pipeShut p).2])
noncomputable def shut_lib:List (Nat × Spec):=[(21,check_S),(66,cloneB_S),(214,concatB_S)]
noncomputable def shut_fns:List (Nat × FnI):=[(213,{fn:=Tryz.f213,hooks:=[],draws:=[(5,[0,0,2,6,14,0,32,96,224,480,1022,2047,4095]),(7,[0,0,2,6,14,0,0,96,254,510,1023,2047,4095])]})]
noncomputable def shut_prims:List (Nat × PSpec):=[]
theorem qu4_:EnvOK ⟨Tryz.prog,tys,shut_lib,shut_fns,shut_prims,[]⟩:=qf_ mixed0 tys0 (.cons vh_ vo_ (.cons zi_ ze_ (.cons zw_ z0_ .nil))) (.cons (by kernel_rfl) ⟨Tryz.func213,by kernel_rfl,by kernel_rfl⟩ .nil) .nil rfl
theorem qsc_:Pure Tryz.prog 217 shut_S:=by
 refine qe_ qu4_ 6 (fi:={fn:=Tryz.f217,hooks:=[],draws:=[]}) ⟨Tryz.func217,by kernel_rfl,by kernel_rfl⟩ ?_
 rintro _ K ⟨p,rfl,hK⟩
 replace hK:∀ r,r=.tup [pipeV (pipeShut p).1,.int .i64 (pipeShut p).2]→K r:=fun r h=>h ▸ hK
 refine ⟨p,rfl,?_⟩
 repeat' first|(refine fun (b:Bool) hb=>?_;cases b<;>first|exact absurd hb (by decide)|exact nfl hb|exact nfr hb|skip)|refine ⟨UInt8,byteV,?_⟩|fail
 all_goals (refine hK _ ?_;grind [pipeShut,noPipe,pipeV])
end Gv
namespace Gv
variable [Glob] [Laid] [Nums] [Errs]
theorem qry_:∀ {l:List Bs} {s:Bs},s∈l→s.length≤(put l).length
 | a::r,s,h=>by
  simp only [put,List.length_append,List.length_cons]
  rcases List.mem_cons.1 h with rfl|h
  ·omega
  ·have:=qry_ h
   omega
theorem qos_:callable Tryz.prog 165=true:=by kernel_rfl
def cameD_P:PSpec:=fun args rows K=>∃ (m:MachS) (i:Nat) (els:List V) (b:Bs),args=[.ptr 0 0 0,.int .i64 i,.sl byteV b]∧FocOK m i els∧((∀ q∈m.pipes,checkPipe q=0)∧0≤(pr m i).pos∧(pr m i).pos<(nI m.g i:Int)∧(pr m i).got.flatten.length+b.length≤400000000∧m.sunk.length≤500000000)∧rows=focR m i els∧(∀ ex,K (.tup []) (focR (cameM m i b) i els++ex))∧(∀ ex,(ndG m.g i).kind=5→K (.tup []) ([.box [.sl nodeV m.g,.sl fileV m.f,.own 1,.own 2,.sl byteV (m.sunk++(gotK m i (pr m i).pos.toNat++b))],.row 4 (m.pipes.map pipeV),.rowq 5 (els.set i (procF (pr m i))),.row 1 (((pr m i).got.map blV).set (pr m i).pos.toNat .nil),.row 1 ((pr m i).out.map blV)]++ex))
noncomputable def cameD_lib:List (Nat × Spec):=[(214,concatB_S),(90,linesL_S),(91,linesC_S),(93,put_S),(66,cloneB_S),(73,each_S),(95,inputsX_S),(217,shut_S),(216,countB_S),(251,lastB_S)]
noncomputable def cameD_fns:List (Nat × FnI):=[(215,{fn:=Tryz.f215,hooks:=[],draws:=[]}),(163,{ fn:=Tryz.f163,spec:=some fullF_P })]
noncomputable def cameD_prims:List (Nat × PSpec):=[]
theorem qto_:EnvOK ⟨Tryz.prog,tys,cameD_lib,cameD_fns,cameD_prims,[]⟩:=qf_ mixed0 tys0 (.cons zw_ z0_ (.cons qfo_ qfm_ (.cons qbb_ qak_ (.cons ql5_ ql7_ (.cons zi_ ze_ (.cons qsf_ qs9_ (.cons wd_ v0_ (.cons qt9_ qsc_ (.cons qnc_ qlm_ (.cons qpq_ qq3_ .nil)))))))))) (.cons (by kernel_rfl) ⟨Tryz.func215,by kernel_rfl,by kernel_rfl⟩ (.told qda_ rfl qcs_ .nil)) .nil rfl
theorem qjt_:PrimOK Tryz.prog 165 cameD_P:=by
 refine q3_ qto_ 6 qos_ (fi:={fn:=Tryz.f165,hooks:=[1,15],draws:=[(0,[0,1,3,7,0,31,0,64,192,448,960,0,4032,8128,0,16447,65535]),(1,[0,1,3,7,0,16,48,112,255,511]),(4,[0,0,0,4,12,28,0,64,192,508,1020,2045,4093,8189,16383,32767]),(11,[0,1,3,7,0,16,48,112,240,496,0,1024,4080,8176,16383,32767]),(12,[0,1,3,7,15,31,63,127,255,511,1023,2047,4095,1023,16383,1023,33791,99327,262143,524287,1048575]),(14,[0,1,3,7,0,0,32,96,224,0,992,2016,4064,8160,16352,16352,32767,98303])]}) ⟨Tryz.func165,by kernel_rfl,by kernel_rfl⟩ ?_
 rintro args rows K ⟨m,i,els,b,rfl,h,⟨hq,hp0,hp1,hsz,hsk⟩,rfl,hK,hN⟩
 have hei:(els.set i (procF (pr m i)))[i]?=some (procF (pr m i)):=List.getElem?_set_self (by rw [h.nl];exact h.lt)
 have hel:(els.set i (procF (pr m i))).length=m.g.length:=by rw [List.length_set,h.nl]
 have hpe:=h.pe
 have hgf:=gf_of h.g
 have hnd:ndG m.g i=m.g[i]'(h.lt):=qt_ h.lt
 obtain ⟨k,hk⟩:∃ k:Nat,(pr m i).pos=k:=⟨(pr m i).pos.toNat,by omega⟩
 have hkl:k<(pr m i).got.length:=by rw [h.got];omega
 have hkt:(pr m i).pos.toNat=k:=by omega
 unfold focR
 conv=>whnf
 refine qd_ [0,1,2] (σ:=Unit) (fun _=>[(6,.ptr 2 i 0),(7,.ptr 5 0 0)]) (fun _=>[.box [.sl nodeV m.g,.sl fileV m.f,.own 1,.own 2,.sl byteV m.sunk],.row 4 (m.pipes.map pipeV),.rowq 5 (els.set i (procF (pr m i))),.row 1 ((pr m i).got.map blV),.row 1 ((pr m i).out.map blV),.box (nodeV (ndG m.g i)).cells]) (fun _=>True) ?_
 conv=>whnf
 refine ⟨?_,fun _ _=>?_⟩
 ·conv=>whnf
  repeat' first|exact True.intro|refine ⟨_,⟨rfl,rfl⟩,?_⟩|refine And.intro (a:=chkPast _ _ _ _ _ _ _ _) ?_ ?_|fail
  conv=>whnf
  apply Exists.intro
  apply And.intro
  ·repeat' first|refine ⟨_,rfl,?_,rfl,?_⟩|refine ⟨rfl,?_⟩|fail
   ·rw [hel];exact h.lt
   ·exact rfl
  conv=>whnf
  refine ⟨trivial,?_⟩
  conv=>whnf
  repeat' first|exact True.intro|refine ⟨_,⟨rfl,rfl⟩,?_⟩|refine ⟨_,_,⟨rfl,rfl⟩,?_⟩|refine And.intro (a:=chkPend _ _ _ _ _ _) ?_ ?_|refine And.intro (a:=chkPast _ _ _ _ _ _ _ _) ?_ ?_|refine ⟨⟨rfl,rfl⟩,?_⟩|refine ⟨_,⟨_,rfl,?_,rfl,rfl,rfl⟩,?_⟩|fail
  conv=>whnf
  skip
  ·exact h.lt
  ·conv=>whnf
   refine ⟨?_,?_⟩
   ·conv=>whnf
    refine ⟨rfl,i,rfl,by rw [hel];exact h.lt,?_⟩
    exact ⟨rfl,rfl⟩
   ·conv=>whnf
    repeat' first|exact True.intro|refine ⟨⟨rfl,rfl⟩,?_⟩|fail
    all_goals done
  conv=>whnf
  rw [hnd]
  exact ⟨(),(by (refine qc_ [some 0,some 1,some 2,some 3,some 4,some 5] rfl rfl ?_ ?_<;>(repeat' (first|exact qg_ hpe rfl rfl|exact True.intro|exact rfl|exact Or.inl rfl|exact Or.inr rfl|refine And.intro ?_ ?_|fail)))),trivial⟩
 conv=>whnf
 repeat' first|refine ⟨_,⟨rfl,rfl⟩,?_⟩|fail
 conv=>whnf
 apply Exists.intro
 apply And.intro
 ·conv=>whnf
  refine ⟨_,hei,?_⟩
  repeat' first|refine ⟨rfl,?_⟩|fail
  exact rfl
 conv=>whnf
 refine ⟨trivial,?_⟩
 conv=>whnf
 repeat' first|refine ⟨_,⟨rfl,rfl⟩,?_⟩|fail
 conv=>whnf
 apply Exists.intro
 apply And.intro
 ·conv=>whnf
  refine ⟨_,hei,?_⟩
  repeat' first|refine ⟨rfl,?_⟩|fail
  exact rfl
 conv=>whnf
 refine ⟨trivial,?_⟩
 conv=>whnf
 apply Exists.intro
 apply And.intro
 ·refine ⟨rfl,k,hk,by rw [List.length_map];exact hkl,?_⟩
  exact ⟨rfl,rfl⟩
 conv=>whnf
 refine ⟨trivial,?_⟩
 conv=>whnf
 repeat' first|refine ⟨_,⟨rfl,rfl⟩,?_⟩|fail
 have hgk:((pr m i).got.map blV)[k]?=some (blV (gotK m i k)):=by
  rw [List.getElem?_map,List.getElem?_eq_getElem hkl]
  unfold gotK
  rw [List.getD_eq_getElem?_getD,List.getElem?_eq_getElem hkl];rfl
 have hgl:(gotK m i k).length+b.length≤400000000:=by
  have:=x5_ (pr m i).got k
  unfold gotK;omega
 refine ⟨_,hgk,?_⟩
 skip
 refine ⟨Bs,blV,[gotK m i k,b],LeL.refl _,?_⟩
 skip
 refine ⟨[gotK m i k,b],rfl,?_,?_⟩
 ·simp;omega
 skip
 refine ⟨by rw [List.length_map];exact hkl,?_⟩
 have hxl:([gotK m i k,b].flatten).length≤400000000:=by simp;omega
 have hx:[gotK m i k,b].flatten=gotK m i k++b:=by simp
 have hgx:(((pr m i).got.map blV).set k (.sl byteV [gotK m i k,b].flatten))[k]?=some (blV [gotK m i k,b].flatten):=List.getElem?_set_self (by rw [List.length_map];exact hkl)
 have hgxl:k<(((pr m i).got.map blV).set k (.sl byteV [gotK m i k,b].flatten)).length:=by rw [List.length_set,List.length_map];exact hkl
 have hb2:[gotK m i k,b].flatten.length=(gotK m i k).length+b.length:=by simp
 generalize [gotK m i k,b].flatten=x at hx hgx hxl hgxl hb2
 rw [hkt] at hN
 have hmp:i<m.p.length:=by rw [h.np];exact h.lt
 have hset:((pr m i).got.map blV).set k (.sl byteV x)=(setGot (pr m i) k x).got.map blV:=by
  show _=((pr m i).got.set k x).map blV
  rw [List.map_set];rfl
 have hnone:∀ (h5:¬ (ndG m.g i).kind=5) (h2:¬ (isBeh (ndG m.g i)=true∨isEach (ndG m.g i)=true)) (h3:¬ (isHead (ndG m.g i)=true∧(ndG m.g i).c.n≤(feeds x:Int))) (ex:Rows),K (.tup []) ([.box [.sl nodeV m.g,.sl fileV m.f,.own 1,.own 2,.sl byteV m.sunk],.row 4 (m.pipes.map pipeV),.rowq 5 (els.set i (procF (pr m i))),.row 1 (((pr m i).got.map blV).set k (.sl byteV x)),.row 1 ((pr m i).out.map blV)]++ex):=fun h5 h2 h3 ex=>by
  have:=hK ex
  rw [qez_ hkt h5 h2 (by rw [←hx];exact h3),q2_ hmp,←hx] at this
  rw [hset]
  exact this
 have heach:∀ (l:List Bs) (hl:l=(if (ndG m.g i).kind=3 then linesC (ndG m.g i).c (linesOf (comp x)) else linesOf (comp x))) (h5:¬ (ndG m.g i).kind=5) (h2:isBeh (ndG m.g i)=true∨isEach (ndG m.g i)=true) (ex:Rows),K (.tup []) ([.box [.sl nodeV m.g,.sl fileV m.f,.own 1,.own 2,.sl byteV m.sunk],.row 4 (m.pipes.map pipeV),.rowq 5 (els.set i (procF (pr m i))),.row 1 ((((pr m i).got.map blV).set k (.sl byteV x)).set k (.sl byteV (x.drop (comp x).length))),.row 1 (((pr m i).out.map blV).set 0 (.sl byteV [outK m i 0,put l].flatten))]++ex):=fun l hl h5 h2 ex=>by
  have:=hK ex
  rw [qbe_ hkt h5 h2,q2_ hmp,←hx,←hl] at this
  have e1:(((pr m i).got.map blV).set k (.sl byteV x)).set k (.sl byteV (x.drop (comp x).length))=((pr m i).got.set k (rest x)).map blV:=by
   rw [List.set_set,List.map_set,←(zo_ x).2.2];rfl
  have e2:((pr m i).out.map blV).set 0 (.sl byteV [outK m i 0,put l].flatten)=((pr m i).out.set 0 (outK m i 0++put l)).map blV:=by
   rw [List.map_set];simp [blV]
  rw [e1,e2]
  exact this
 have hcl:=zo_ x
 have hll:(linesOf (x.take (comp x).length)).length≤900000000:=by
  have:=q4_ (x.take (comp x).length)
  rw [List.length_take] at this
  omega
 have hls:∀ s∈linesOf (x.take (comp x).length),s.length≤900000000:=fun s hs=>by
  have h1:=q6_ (x.take (comp x).length)
  have h2:=qry_ hs
  rw [List.length_take] at h1
  omega
 repeat' first|exact True.intro|(refine fun (b:Bool) hb=>?_;cases b<;>first|exact absurd hb (by decide)|exact nfl hb|exact nfr hb|skip)|refine ⟨_,⟨rfl,rfl⟩,?_⟩|refine And.intro (a:=chkPast _ _ _ _ _ _ _ _) ?_ ?_|fail
 rotate_right
 ·
  have h5:(ndG m.g i).kind=5:=of_decide_eq_true (by assumption)
  conv=>whnf
  apply Exists.intro
  apply And.intro
  ·refine ⟨_,hgx,?_⟩
   repeat' first|refine ⟨rfl,?_⟩|fail
   exact rfl
  conv=>whnf
  refine ⟨trivial,?_⟩
  conv=>whnf
  refine ⟨_,⟨Bs,blV,[m.sunk,x],LeL.refl _,rfl,rfl⟩,?_⟩
  conv=>whnf
  apply Exists.intro
  apply And.intro
  ·refine ⟨[m.sunk,x],rfl,by simp;omega,?_⟩
   exact ⟨rfl,rfl⟩
  conv=>whnf
  repeat' first|exact True.intro|refine ⟨_,⟨rfl,rfl⟩,?_⟩|refine ⟨_,_,⟨rfl,rfl⟩,?_⟩|refine And.intro (a:=chkPend _ _ _ _ _ _) ?_ ?_|fail
  conv=>whnf
  apply Exists.intro
  apply Exists.intro
  apply And.intro
  ·conv=>whnf
   refine ⟨hgxl,?_⟩
   exact ⟨rfl,rfl⟩
  conv=>whnf
  repeat' first|exact True.intro|refine And.intro (a:=chkPend _ _ _ _ _ _) ?_ ?_|fail
  conv=>whnf
  have hfin:=hN [.box (nodeV (ndG m.g i)).cells,.fz blV [gotK m i k,b]] h5
  rw [←hx] at hfin
  rw [List.set_set]
  have e:[m.sunk,x].flatten=m.sunk++x:=by simp
  rw [e]
  exact hfin
 ·
  have h5:¬ (ndG m.g i).kind=5:=of_decide_eq_false (by assumption)
  have h4:¬ (ndG m.g i).kind=4:=of_decide_eq_false (by assumption)
  have h3:¬ (ndG m.g i).kind=3:=of_decide_eq_false (by assumption)
  conv=>whnf
  exact hnone h5 (by simp [isBeh,isEach,h4,h3]) (by simp [isHead,h3]) [.box (nodeV (ndG m.g i)).cells,.fz blV [gotK m i k,b]]
 ·exact absurd (of_decide_eq_true (by assumption:decide ((ndG m.g i).kind=3)=true)) (of_decide_eq_false (by assumption))
 ·exact absurd (of_decide_eq_true (by assumption:decide ((ndG m.g i).kind=3)=true)) (of_decide_eq_false (by assumption))
 ·
  have h5:¬ (ndG m.g i).kind=5:=of_decide_eq_false (by assumption)
  have h4:¬ (ndG m.g i).kind=4:=of_decide_eq_false (by assumption)
  have h3:(ndG m.g i).kind=3:=of_decide_eq_true (by assumption)
  conv=>whnf
  refine ⟨(ndG m.g i).c.kind,(ndG m.g i).c.word,(ndG m.g i).c.n,rfl,?_⟩
  repeat' first|exact True.intro|(refine fun (b:Bool) hb=>?_;cases b<;>first|exact absurd hb (by decide)|exact nfl hb|exact nfr hb|skip)|refine ⟨_,⟨rfl,rfl⟩,?_⟩|refine And.intro (a:=chkPast _ _ _ _ _ _ _ _) ?_ ?_|fail
  rotate_right
  ·have he:each (ndG m.g i).c=true:=by assumption
   have hcc:checkCmd (ndG m.g i).c=0:=by
    rcases qu_ (hgf.node i h.lt) with ⟨a,_⟩|⟨a,_⟩|⟨a,_,e⟩|⟨a,_⟩|⟨a,_⟩<;>first|exact e|omega
   have hol:0<(pr m i).out.length:=by
    have:=h.out
    unfold nO outsN at this
    rw [if_neg (by omega),if_neg (by omega)] at this
    omega
   have hgo:((pr m i).out.map blV)[0]?=some (blV (outK m i 0)):=by
    rw [List.getElem?_map,List.getElem?_eq_getElem hol]
    unfold outK
    rw [List.getD_eq_getElem?_getD,List.getElem?_eq_getElem hol];rfl
   have hob:(outK m i 0).length≤400000000:=by
    unfold outK
    rw [List.getD_eq_getElem?_getD,List.getElem?_eq_getElem hol]
    exact h.big _ (List.mem_append_right _ (List.getElem_mem hol))
   have hpl:(put (linesC (ndG m.g i).c (linesOf (x.take (comp x).length)))).length≤500000000:=by
    have h1:=q6_ (x.take (comp x).length)
    have h2:=zl_ hcc (linesOf (x.take (comp x).length)) hll
    rw [List.length_take] at h1
    omega
   conv=>whnf
   refine ⟨_,hgx,?_⟩
   skip
   refine ⟨x,rfl,?_⟩
   repeat' first|refine And.intro (a:=I64 _) ?_ ?_|fail
   ·have:=(zo_ x).1
    unfold I64;omega
   refine ⟨_,hgx,?_⟩
   repeat' first|refine ⟨(fun _=>rfl),?_⟩|fail
   refine ⟨(comp x).length,by omega,(zo_ x).1,?_⟩
   skip
   refine ⟨x.take (comp x).length,rfl,by rw [List.length_take];omega,?_⟩
   skip
   refine ⟨_,hgx,?_⟩
   repeat' first|refine ⟨(fun _=>rfl),?_⟩|fail
   refine ⟨(comp x).length,by omega,(zo_ x).1,?_⟩
   skip
   refine ⟨x.drop (comp x).length,rfl,by rw [List.length_drop];omega,?_⟩
   skip
   refine ⟨hgxl,?_⟩
   repeat' first|(refine fun (b:Bool) hb=>?_;cases b<;>first|exact absurd hb (by decide)|exact nfl hb|exact nfr hb|skip)|refine ⟨_,⟨rfl,rfl⟩,?_⟩|fail
   ·exact absurd h3 (of_decide_eq_false (by assumption))
   refine ⟨(ndG m.g i).c,linesOf (x.take (comp x).length),rfl,⟨hcc,hll,hls⟩,?_⟩
   repeat' first|refine ⟨_,⟨rfl,rfl⟩,?_⟩|fail
   conv=>whnf
   apply Exists.intro
   apply And.intro
   ·conv=>whnf
    refine ⟨_,hei,?_⟩
    repeat' first|refine ⟨rfl,?_⟩|fail
    exact rfl
   conv=>whnf
   refine ⟨trivial,?_⟩
   conv=>whnf
   repeat' first|refine ⟨_,⟨rfl,rfl⟩,?_⟩|fail
   conv=>whnf
   apply Exists.intro
   apply And.intro
   ·conv=>whnf
    refine ⟨_,hei,?_⟩
    repeat' first|refine ⟨rfl,?_⟩|fail
    exact rfl
   conv=>whnf
   refine ⟨trivial,?_⟩
   conv=>whnf
   apply Exists.intro
   apply And.intro
   ·refine ⟨rfl,0,rfl,by rw [List.length_map];exact hol,?_⟩
    exact ⟨rfl,rfl⟩
   conv=>whnf
   refine ⟨trivial,?_⟩
   conv=>whnf
   apply Exists.intro
   apply And.intro
   ·refine ⟨_,hgo,?_⟩
    repeat' first|refine ⟨rfl,?_⟩|fail
    exact rfl
   conv=>whnf
   refine ⟨trivial,?_⟩
   conv=>whnf
   repeat' first|refine ⟨_,⟨rfl,rfl⟩,?_⟩|fail
   apply Exists.intro
   apply And.intro
   ·refine ⟨linesC (ndG m.g i).c (linesOf (x.take (comp x).length)),rfl,by omega,?_⟩
    exact ⟨rfl,rfl⟩
   conv=>whnf
   refine ⟨_,⟨Bs,blV,[outK m i 0,put (linesC (ndG m.g i).c (linesOf (x.take (comp x).length)))],LeL.refl _,rfl,rfl⟩,?_⟩
   conv=>whnf
   apply Exists.intro
   apply And.intro
   ·refine ⟨[outK m i 0,put (linesC (ndG m.g i).c (linesOf (x.take (comp x).length)))],rfl,by simp;omega,?_⟩
    exact ⟨rfl,rfl⟩
   conv=>whnf
   apply Exists.intro
   apply And.intro
   ·refine ⟨rfl,0,rfl,by rw [List.length_map];exact hol,?_⟩
    exact ⟨rfl,rfl⟩
   conv=>whnf
   refine ⟨trivial,?_⟩
   conv=>whnf
   apply Exists.intro
   apply Exists.intro
   apply And.intro
   ·conv=>whnf
    refine ⟨by rw [List.length_map];exact hol,?_⟩
    exact ⟨rfl,rfl⟩
   conv=>whnf
   repeat' first|exact True.intro|refine And.intro (a:=chkPend _ _ _ _ _ _) ?_ ?_|fail
   conv=>whnf
   exact heach (linesC (ndG m.g i).c (linesOf (x.take (comp x).length))) (by rw [if_pos h3,(zo_ x).2.1]) h5 (by simp [isEach,h3,he]) [.box (nodeV (ndG m.g i)).cells,.fz blV [gotK m i k,b]]
  ·exact absurd h3 (of_decide_eq_false (by assumption))
  all_goals
   have he:each (ndG m.g i).c=false:=by assumption
   have hbe:¬ (isBeh (ndG m.g i)=true∨isEach (ndG m.g i)=true):=by simp [isBeh,isEach,h4,he]
  ·have h9:¬ (ndG m.g i).c.kind=9:=of_decide_eq_false (by assumption)
   conv=>whnf
   exact hnone h5 hbe (by simp [isHead,h9]) [.box (nodeV (ndG m.g i)).cells,.fz blV [gotK m i k,b]]
  have h9:(ndG m.g i).c.kind=9:=of_decide_eq_true (by assumption)
  conv=>whnf
  apply Exists.intro
  apply And.intro
  ·refine ⟨_,hgx,?_⟩
   repeat' first|refine ⟨rfl,?_⟩|fail
   exact rfl
  conv=>whnf
  refine ⟨trivial,?_⟩
  conv=>whnf
  refine ⟨_,⟨UInt8,byteV,[10],LeL.refl _,rfl,rfl⟩,?_⟩
  conv=>whnf
  apply Exists.intro
  apply And.intro
  ·refine ⟨x,rfl,?_⟩
   exact ⟨rfl,rfl⟩
  conv=>whnf
  repeat' first|exact True.intro|(refine fun (b:Bool) hb=>?_;cases b<;>first|exact absurd hb (by decide)|exact nfl hb|exact nfr hb|skip)|refine ⟨_,⟨rfl,rfl⟩,?_⟩|refine And.intro (a:=chkPast _ _ _ _ _ _ _ _) ?_ ?_|fail
  conv=>whnf
  skip
  ·have hc:=of_decide_eq_false (by assumption:decide ((ndG m.g i).c.n≤((List.count 10 x:Nat):Int))=false)
   conv=>whnf
   exact hnone h5 hbe (fun h=>hc h.2) [.box (nodeV (ndG m.g i)).cells,.fz blV [gotK m i k,b]]
  have hc:=of_decide_eq_true (by assumption:decide ((ndG m.g i).c.n≤((List.count 10 x:Nat):Int))=true)
  have hin:insB m.g i+k<(allIns m.g).length:=by
   have h1:=zs_ h.lt
   have h2:=xb_ (N:=m.g) (i:=i+1) (j:=m.g.length) h.lt (Nat.le_refl _)
   rw [zt_] at h2
   omega
  have hiq:insB m.g i<m.pipes.length:=by rw [h.nq];omega
  have hgq:(m.pipes.map pipeV)[insB m.g i]?=some (pipeV (qu m (insB m.g i))):=by
   rw [List.getElem?_map,List.getElem?_eq_getElem hiq]
   unfold qu
   rw [List.getD_eq_getElem?_getD,List.getElem?_eq_getElem hiq]
   rfl
  have hqc:checkPipe (qu m (insB m.g i))=0:=by
   unfold qu
   rw [List.getD_eq_getElem?_getD,List.getElem?_eq_getElem hiq]
   exact hq _ (List.getElem_mem hiq)
  have hsh:(pipeShut (qu m (insB m.g i))).1=shutP (qu m (insB m.g i)):=by
   unfold pipeShut
   rw [qz_,if_neg (by rw [hqc];decide)]
   rfl
  conv=>whnf
  refine ⟨m.g,i,rfl,⟨Nat.le_of_lt h.lt,qq_ h.g⟩,?_⟩
  conv=>whnf
  refine qd_ [0,1] (σ:=Unit) (fun _=>[]) (fun _=>[.box [.sl nodeV m.g,.sl fileV m.f,.own 1,.own 2,.sl byteV m.sunk],.row 4 ((m.pipes.set (insB m.g i) (shutP (qu m (insB m.g i)))).map pipeV),.rowq 5 (els.set i (procF (setGot (pr m i) k x))),.row 1 ((setGot (pr m i) k x).got.map blV),.row 1 ((setGot (pr m i) k x).out.map blV)]) (fun _=>True) ?_
  conv=>whnf
  refine ⟨?_,fun _ _=>?_⟩
  ·conv=>whnf
   repeat' first|exact True.intro|refine ⟨_,⟨rfl,rfl⟩,?_⟩|refine And.intro (a:=chkPast _ _ _ _ _ _ _ _) ?_ ?_|fail
   conv=>whnf
   apply Exists.intro
   apply And.intro
   ·refine ⟨rfl,insB m.g i,rfl,by rw [List.length_map];exact hiq,?_⟩
    exact ⟨rfl,rfl⟩
   conv=>whnf
   refine ⟨trivial,?_⟩
   conv=>whnf
   apply Exists.intro
   apply And.intro
   ·refine ⟨_,hgq,?_⟩
    repeat' first|refine ⟨rfl,?_⟩|fail
    exact rfl
   conv=>whnf
   refine ⟨trivial,?_⟩
   conv=>whnf
   apply Exists.intro
   apply And.intro
   ·refine ⟨qu m (insB m.g i),rfl,?_⟩
    exact ⟨rfl,rfl⟩
   conv=>whnf
   repeat' first|refine ⟨_,⟨rfl,rfl⟩,?_⟩|fail
   conv=>whnf
   apply Exists.intro
   apply And.intro
   ·refine ⟨rfl,insB m.g i,rfl,by rw [List.length_map];exact hiq,?_⟩
    exact ⟨rfl,rfl⟩
   conv=>whnf
   refine ⟨trivial,?_⟩
   conv=>whnf
   apply Exists.intro
   apply Exists.intro
   apply And.intro
   ·conv=>whnf
    refine ⟨by rw [List.length_map];exact hiq,?_⟩
    exact ⟨rfl,rfl⟩
   conv=>whnf
   repeat' first|exact True.intro|refine And.intro (a:=chkPend _ _ _ _ _ _) ?_ ?_|fail
   conv=>whnf
   rw [←hset,List.map_set,←hsh]
   exact ⟨(),(by (refine qc_ [some 0,some 1,some 2,some 3,some 4] rfl rfl ?_ ?_<;>(repeat' (first|exact qg_ hpe rfl rfl|exact True.intro|exact rfl|exact Or.inl rfl|exact Or.inr rfl|refine And.intro ?_ ?_|fail)))),trivial⟩
  have hml:(m.pipes.set (insB m.g i) (shutP (qu m (insB m.g i)))).length=m.pipes.length:=List.length_set
  have hmr:∀ p∈m.pipes.set (insB m.g i) (shutP (qu m (insB m.g i))),p.b.length≤400000000:=fun p hp=>by
   rcases List.mem_or_eq_of_mem_set hp with hp|rfl
   ·exact h.room p hp
   ·exact Nat.zero_le _
  have hF:=qi0_ (k:=k) h hxl hml hmr
  have hpr:pr ⟨m.g,m.f,m.pipes.set (insB m.g i) (shutP (qu m (insB m.g i))),m.p.set i (setGot (pr m i) k x),m.sunk⟩ i=setGot (pr m i) k x:=by
   show (m.p.set i _).getD i zProc=_
   rw [xj_,if_pos ⟨rfl,hmp⟩]
  have hfl:=x4_ (pr m i).got k x hkl
  have hgd:(pr m i).got.getD k []=gotK m i k:=rfl
  rw [hgd] at hfl
  conv=>whnf
  refine ⟨⟨m.g,m.f,m.pipes.set (insB m.g i) (shutP (qu m (insB m.g i))),m.p.set i (setGot (pr m i) k x),m.sunk⟩,i,els,rfl,hF,?_,?_,fun ex=>?_⟩
  ·rw [hpr]
   show ((pr m i).got.set k x).flatten.length≤500000000
   omega
  ·exact (q2_ hmp).symm
  ·conv=>whnf
   have hfin:=hK ex
   rw [qfi_ hkt h5 hbe ⟨by simp [isHead,h3,h9],by rw [←hx];exact hc⟩,←hx] at hfin
   exact hfin
 ·
  have h5:¬ (ndG m.g i).kind=5:=of_decide_eq_false (by assumption)
  have h4:(ndG m.g i).kind=4:=of_decide_eq_true (by assumption)
  have h1:¬ (ndG m.g i).how=1:=of_decide_eq_false (by assumption)
  have h3:¬ (ndG m.g i).kind=3:=of_decide_eq_false (by assumption)
  conv=>whnf
  exact hnone h5 (by simp [isBeh,isEach,h4,h1]) (by simp [isHead,h3]) [.box (nodeV (ndG m.g i)).cells,.fz blV [gotK m i k,b]]
 ·exact absurd (of_decide_eq_true (by assumption:decide ((ndG m.g i).kind=3)=true)) (of_decide_eq_false (by assumption))
 ·exact absurd (of_decide_eq_true (by assumption:decide ((ndG m.g i).kind=3)=true)) (of_decide_eq_false (by assumption))
 ·have h4:=of_decide_eq_true (by assumption:decide ((ndG m.g i).kind=4)=true)
  have h3:=of_decide_eq_true (by assumption:decide ((ndG m.g i).kind=3)=true)
  omega
 ·
  have h5:¬ (ndG m.g i).kind=5:=of_decide_eq_false (by assumption)
  have h4:(ndG m.g i).kind=4:=of_decide_eq_true (by assumption)
  have h1:(ndG m.g i).how=1:=of_decide_eq_true (by assumption)
  have hol:0<(pr m i).out.length:=by
   have:=h.out
   unfold nO outsN at this
   rw [if_neg (by omega),if_neg (by omega)] at this
   omega
  have hgo:((pr m i).out.map blV)[0]?=some (blV (outK m i 0)):=by
   rw [List.getElem?_map,List.getElem?_eq_getElem hol]
   unfold outK
   rw [List.getD_eq_getElem?_getD,List.getElem?_eq_getElem hol];rfl
  have hob:(outK m i 0).length≤400000000:=by
   unfold outK
   rw [List.getD_eq_getElem?_getD,List.getElem?_eq_getElem hol]
   exact h.big _ (List.mem_append_right _ (List.getElem_mem hol))
  have hpl:(put (linesOf (x.take (comp x).length))).length≤500000000:=by
   have h1:=q6_ (x.take (comp x).length)
   rw [List.length_take] at h1
   omega
  conv=>whnf
  refine ⟨_,hgx,?_⟩
  skip
  refine ⟨x,rfl,?_⟩
  repeat' first|refine And.intro (a:=I64 _) ?_ ?_|fail
  ·have:=(zo_ x).1
   unfold I64;omega
  refine ⟨_,hgx,?_⟩
  repeat' first|refine ⟨(fun _=>rfl),?_⟩|fail
  refine ⟨(comp x).length,by omega,(zo_ x).1,?_⟩
  skip
  refine ⟨x.take (comp x).length,rfl,by rw [List.length_take];omega,?_⟩
  skip
  refine ⟨_,hgx,?_⟩
  repeat' first|refine ⟨(fun _=>rfl),?_⟩|fail
  refine ⟨(comp x).length,by omega,(zo_ x).1,?_⟩
  skip
  refine ⟨x.drop (comp x).length,rfl,by rw [List.length_drop];omega,?_⟩
  skip
  refine ⟨hgxl,?_⟩
  repeat' first|(refine fun (b:Bool) hb=>?_;cases b<;>first|exact absurd hb (by decide)|exact nfl hb|exact nfr hb|skip)|refine ⟨_,⟨rfl,rfl⟩,?_⟩|fail
  rotate_right
  ·exact absurd (of_decide_eq_true (by assumption:decide ((ndG m.g i).kind=3)=true)) (by omega)
  conv=>whnf
  apply Exists.intro
  apply And.intro
  ·conv=>whnf
   refine ⟨_,hei,?_⟩
   repeat' first|refine ⟨rfl,?_⟩|fail
   exact rfl
  conv=>whnf
  refine ⟨trivial,?_⟩
  conv=>whnf
  repeat' first|refine ⟨_,⟨rfl,rfl⟩,?_⟩|fail
  conv=>whnf
  apply Exists.intro
  apply And.intro
  ·conv=>whnf
   refine ⟨_,hei,?_⟩
   repeat' first|refine ⟨rfl,?_⟩|fail
   exact rfl
  conv=>whnf
  refine ⟨trivial,?_⟩
  conv=>whnf
  apply Exists.intro
  apply And.intro
  ·refine ⟨rfl,0,rfl,by rw [List.length_map];exact hol,?_⟩
   exact ⟨rfl,rfl⟩
  conv=>whnf
  refine ⟨trivial,?_⟩
  conv=>whnf
  apply Exists.intro
  apply And.intro
  ·refine ⟨_,hgo,?_⟩
   repeat' first|refine ⟨rfl,?_⟩|fail
   exact rfl
  conv=>whnf
  refine ⟨trivial,?_⟩
  conv=>whnf
  repeat' first|refine ⟨_,⟨rfl,rfl⟩,?_⟩|fail
  apply Exists.intro
  apply And.intro
  ·refine ⟨linesOf (x.take (comp x).length),rfl,by omega,?_⟩
   exact ⟨rfl,rfl⟩
  conv=>whnf
  refine ⟨_,⟨Bs,blV,[outK m i 0,put (linesOf (x.take (comp x).length))],LeL.refl _,rfl,rfl⟩,?_⟩
  conv=>whnf
  apply Exists.intro
  apply And.intro
  ·refine ⟨[outK m i 0,put (linesOf (x.take (comp x).length))],rfl,by simp;omega,?_⟩
   exact ⟨rfl,rfl⟩
  conv=>whnf
  apply Exists.intro
  apply And.intro
  ·refine ⟨rfl,0,rfl,by rw [List.length_map];exact hol,?_⟩
   exact ⟨rfl,rfl⟩
  conv=>whnf
  refine ⟨trivial,?_⟩
  conv=>whnf
  apply Exists.intro
  apply Exists.intro
  apply And.intro
  ·conv=>whnf
   refine ⟨by rw [List.length_map];exact hol,?_⟩
   exact ⟨rfl,rfl⟩
  conv=>whnf
  repeat' first|exact True.intro|refine And.intro (a:=chkPend _ _ _ _ _ _) ?_ ?_|fail
  conv=>whnf
  exact heach (linesOf (x.take (comp x).length)) (by rw [if_neg (by omega),(zo_ x).2.1]) h5 (by simp [isBeh,h4,h1]) [.box (nodeV (ndG m.g i)).cells,.fz blV [gotK m i k,b]]
end Gv
namespace Gv
variable [Glob] [Laid] [Nums] [Errs]
theorem qpe_:callable Tryz.prog 165=true:=by kernel_rfl
def cameF_P:PSpec:=fun args rows K=>∃ (m:MachS) (i:Nat) (els:List V) (b:Bs),args=[.ptr 0 0 0,.int .i64 i,.sl byteV b]∧FocOK m i els∧((∀ q∈m.pipes,checkPipe q=0)∧0≤(pr m i).pos∧(pr m i).pos<(nI m.g i:Int)∧(pr m i).got.flatten.length+b.length≤400000000∧m.sunk.length≤500000000)∧rows=focR m i els∧∀ ex,K (.tup []) (focR (cameM m i b) i els++ex)
theorem qjj_:PrimOK Tryz.prog 165 cameF_P:=by
 intro w0 m0 args rows K R m' q w us C hv hT
 obtain ⟨m,i,els,b,rfl,h,hz,rfl,hK⟩:=hT
 refine qlo_ qjt_ w0 m0 _ _ K R m' q w us C hv ⟨m,i,els,b,rfl,h,hz,rfl,fun ex=>.inl (hK ex),fun ex h5=>.inr ⟨3,1,((pr m i).got.map blV).set (pr m i).pos.toNat .nil,((pr m i).got.set (pr m i).pos.toNat []).map blV,rfl,qgg_ _,?_⟩⟩
 have:=hK ex
 rw [qev_ rfl h5,q2_ (by rw [h.np];exact h.lt)] at this
 exact this
end Gv
namespace Gv
variable [Glob] [Laid] [Nums] [Errs]
theorem read8 {p:PipeS} (h:checkPipe p=0):(pipeRead p 8).1=⟨p.b.drop 8,p.room,p.closed,p.shut⟩∧(pipeRead p 8).2.1=p.b.take 8:=by
 unfold pipeRead
 rw [qz_,if_neg (by rw [h];decide),if_neg (by decide)]
 rcases Nat.lt_or_ge p.b.length 8 with h2|h2
 ·have e:(min (8:Int) (p.b.length:Int)).toNat=p.b.length:=by omega
  rw [e,List.take_length,List.drop_length,List.take_of_length_le (by omega),List.drop_eq_nil_of_le (by omega)]
  exact ⟨rfl,rfl⟩
 ·have e:(min (8:Int) (p.b.length:Int)).toNat=8:=by omega
  rw [e]
  exact ⟨rfl,rfl⟩
theorem qmi_ {m m':MachS} {i:Nat} {els:List V} (h:FocOK m i els) (hg:m'.g=m.g) (hf:m'.f=m.f) (hn:m'.p.length=m.p.length) (hq:m'.pipes.length=m.pipes.length) (hgot:(pr m' i).got=(pr m i).got) (hout:(pr m' i).out=(pr m i).out) (hr:∀ p∈m'.pipes,p.b.length≤400000000):FocOK m' i els:=by
 refine ⟨by rw [hg];exact h.g,by rw [hf];exact h.f,by rw [hg,hn];exact h.np,by rw [hg,hq];exact h.nq,by rw [hg];exact h.lt,by rw [hg];exact h.nl,by rw [hg,hgot];exact h.got,by rw [hg,hout];exact h.out,hr,h.pe,fun b hb=>?_⟩
 rw [hgot,hout] at hb
 exact h.big b hb
theorem qsv_ {p:PipeS} (h:checkPipe p=0) (n:Nat):checkPipe ⟨p.b.drop n,p.room,p.closed,p.shut⟩=0:=by
 unfold checkPipe at h ⊢
 dsimp only
 have hl:(p.b.drop n).length≤p.b.length:=by rw [List.length_drop];omega
 by_cases h1:p.room<0∨1000<p.room
 ·rw [if_pos h1] at h;cases h
 ·rw [if_neg h1] at h ⊢
  by_cases h2:(0<p.room∧p.room<(p.b.length:Int))∨40000<p.b.length
  ·rw [if_pos h2] at h;cases h
  ·rw [if_neg h2] at h
   rw [if_neg (by omega)]
   by_cases h3:p.shut=true∧p.b≠[]
   ·rw [if_pos h3] at h;cases h
   ·rw [if_neg (fun h4=>h3 ⟨h4.1,fun e=>h4.2 (by rw [e];simp)⟩)]
theorem qh0_:callable Tryz.prog 124=true:=by kernel_rfl
def readF_P:PSpec:=fun args rows K=>∃ (m:MachS) (i:Nat) (els:List V),args=[.ptr 0 0 0,.int .i64 i]∧FocOK m i els∧((∀ q∈m.pipes,checkPipe q=0)∧0≤(pr m i).pos∧(nI m.g i=0∨(pr m i).pos<(nI m.g i:Int))∧(pr m i).got.flatten.length+8≤400000000∧m.sunk.length≤500000000)∧rows=focR m i els∧(∀ m' ex,readM m i=some m'→K (.lit true) (focR m' i els++ex))∧(∀ ex,readM m i=none→K (.lit false) (focR m i els++ex))
noncomputable def readF_lib:List (Nat × Spec):=[(95,inputsX_S),(164,read_S)]
noncomputable def readF_fns:List (Nat × FnI):=[(163,{ fn:=Tryz.f163,spec:=some fullF_P }),(165,{ fn:=Tryz.f165,spec:=some cameF_P })]
noncomputable def readF_prims:List (Nat × PSpec):=[]
theorem qs4_:EnvOK ⟨Tryz.prog,tys,readF_lib,readF_fns,readF_prims,[]⟩:=qf_ mixed0 tys0 (.cons wd_ v0_ (.cons qt6_ qse_ .nil)) (.told qda_ rfl qcs_ (.told qpe_ rfl qjj_ .nil)) .nil rfl
theorem qjn_:PrimOK Tryz.prog 124 readF_P:=by
 refine q3_ qs4_ 6 qh0_ (fi:={fn:=Tryz.f124,hooks:=[2,3,8,12],draws:=[(1,[0,1,3,7,0,31,0,64,192,448,960,0,4032,8128,0,16447,65535]),(5,[0,1,3,7,0,31,0,64,192,448,1023,2047]),(11,[0,1,3,7,0,0,63,127]),(7,[0,1,3,7,0,16,48,127])]}) ⟨Tryz.func124,by kernel_rfl,by kernel_rfl⟩ ?_
 rintro args rows K ⟨m,i,els,rfl,h,⟨hq,hp0,hp1,hsz,hsk⟩,rfl,hT,hF⟩
 have hei:(els.set i (procF (pr m i)))[i]?=some (procF (pr m i)):=List.getElem?_set_self (by rw [h.nl];exact h.lt)
 have hel:(els.set i (procF (pr m i))).length=m.g.length:=by rw [List.length_set,h.nl]
 have hpe:=h.pe
 have hgf:=gf_of h.g
 have hnd:ndG m.g i=m.g[i]'(h.lt):=qt_ h.lt
 have hmp:i<m.p.length:=by rw [h.np];exact h.lt
 have hni:nI m.g i=(ndG m.g i).ins.length:=rfl
 unfold focR
 conv=>whnf
 refine qd_ [0,1] (σ:=Unit) (fun _=>[(5,.ptr 2 i 0),(6,.ptr 5 0 0)]) (fun _=>[.box [.sl nodeV m.g,.sl fileV m.f,.own 1,.own 2,.sl byteV m.sunk],.row 4 (m.pipes.map pipeV),.rowq 5 (els.set i (procF (pr m i))),.row 1 ((pr m i).got.map blV),.row 1 ((pr m i).out.map blV),.box (nodeV (ndG m.g i)).cells]) (fun _=>True) ?_
 conv=>whnf
 refine ⟨?_,fun _ _=>?_⟩
 ·conv=>whnf
  repeat' first|exact True.intro|refine ⟨_,⟨rfl,rfl⟩,?_⟩|refine And.intro (a:=chkPast _ _ _ _ _ _ _ _) ?_ ?_|fail
  conv=>whnf
  apply Exists.intro
  apply And.intro
  ·repeat' first|refine ⟨_,rfl,?_,rfl,?_⟩|refine ⟨rfl,?_⟩|fail
   ·rw [hel];exact h.lt
   ·exact rfl
  conv=>whnf
  refine ⟨trivial,?_⟩
  conv=>whnf
  repeat' first|exact True.intro|refine ⟨_,⟨rfl,rfl⟩,?_⟩|refine ⟨_,_,⟨rfl,rfl⟩,?_⟩|refine And.intro (a:=chkPend _ _ _ _ _ _) ?_ ?_|refine And.intro (a:=chkPast _ _ _ _ _ _ _ _) ?_ ?_|refine ⟨⟨rfl,rfl⟩,?_⟩|refine ⟨_,⟨_,rfl,?_,rfl,rfl,rfl⟩,?_⟩|fail
  conv=>whnf
  skip
  ·exact h.lt
  ·conv=>whnf
   refine ⟨?_,?_⟩
   ·conv=>whnf
    refine ⟨rfl,i,rfl,by rw [hel];exact h.lt,?_⟩
    exact ⟨rfl,rfl⟩
   ·conv=>whnf
    repeat' first|exact True.intro|refine ⟨⟨rfl,rfl⟩,?_⟩|fail
    all_goals done
  conv=>whnf
  rw [hnd]
  exact ⟨(),(by (refine qc_ [some 0,some 1,some 2,some 3,some 4,some 5] rfl rfl ?_ ?_<;>(repeat' (first|exact qg_ hpe rfl rfl|exact True.intro|exact rfl|exact Or.inl rfl|exact Or.inr rfl|refine And.intro ?_ ?_|fail)))),trivial⟩
 conv=>whnf
 refine qd_ [0,1,5] (σ:=Bool) (fun s=>match s with|true=>[(28,.bool (decide (((ndG m.g i).ins.length:Int)=0)))]|false=>[(28,.bool (decide (((ndG m.g i).ins.length:Int)=0))),(6,.ptr 5 0 0)]) (fun s=>match s with|true=>[.box [.sl nodeV m.g,.sl fileV m.f,.own 1,.own 2,.sl byteV m.sunk],.row 4 (m.pipes.map pipeV),.rowq 5 (els.set i (procF (pr m i))),.row 1 ((pr m i).got.map blV),.row 1 ((pr m i).out.map blV)]|false=>[.box [.sl nodeV m.g,.sl fileV m.f,.own 1,.own 2,.sl byteV m.sunk],.row 4 (m.pipes.map pipeV),.rowq 5 (els.set i (procF (pr m i))),.row 1 ((pr m i).got.map blV),.row 1 ((pr m i).out.map blV),.box (nodeV (ndG m.g i)).cells]) (fun s=>s=decide (nI m.g i=0)) ?_
 conv=>whnf
 refine ⟨?_,fun s hs=>?_⟩
 ·conv=>whnf
  repeat' first|(refine fun (hl:_≤MAXL)=>?_)|fail
  by_cases h0:nI m.g i=0
  ·exact ⟨true,(by (refine qc_ [some 0,some 1,some 2,some 3,some 4] rfl rfl ?_ ?_<;>(repeat' (first|exact qg_ hpe rfl rfl|exact True.intro|exact rfl|exact Or.inl rfl|exact Or.inr rfl|refine And.intro ?_ ?_|fail)))),by simp [h0]⟩
  ·exact ⟨false,(by (refine qc_ [some 0,some 1,some 2,some 3,some 4,some 5] rfl rfl ?_ ?_<;>(repeat' (first|exact qg_ hpe rfl rfl|exact True.intro|exact rfl|exact Or.inl rfl|exact Or.inr rfl|refine And.intro ?_ ?_|fail)))),by simp [h0]⟩
 cases s
 rotate_left
 ·have h0:nI m.g i=0:=of_decide_eq_true hs.symm
  conv=>whnf
  repeat' first|exact True.intro|(refine fun (b:Bool) hb=>?_;cases b<;>first|exact absurd hb (by decide)|exact nfl hb|exact nfr hb|skip)|refine ⟨_,⟨rfl,rfl⟩,?_⟩|refine And.intro (a:=chkPast _ _ _ _ _ _ _ _) ?_ ?_|fail
  ·exact absurd (by omega) (of_decide_eq_false (by assumption:decide (((ndG m.g i).ins.length:Int)=0)=false))
  conv=>whnf
  refine ⟨m,i,els,rfl,h,by omega,rfl,fun ex=>?_⟩
  conv=>whnf
  refine hT _ ex ?_
  unfold readM
  dsimp only
  rw [if_pos h0]
 have h0:¬ nI m.g i=0:=of_decide_eq_false hs.symm
 have hp1:(pr m i).pos<(nI m.g i:Int):=hp1.resolve_left h0
 obtain ⟨k,hk⟩:∃ k:Nat,(pr m i).pos=k:=⟨(pr m i).pos.toNat,by omega⟩
 have hkt:(pr m i).pos.toNat=k:=by omega
 have hin:insB m.g i+k<(allIns m.g).length:=by
  have h1:=zs_ h.lt
  have h2:=xb_ (N:=m.g) (i:=i+1) (j:=m.g.length) h.lt (Nat.le_refl _)
  rw [zt_] at h2
  omega
 have hsm:=qq_ h.g
 have hiq:insB m.g i+k<m.pipes.length:=by rw [h.nq];exact hin
 have hgq:(m.pipes.map pipeV)[insB m.g i+k]?=some (pipeV (qu m (insB m.g i+k))):=by
  rw [List.getElem?_map,List.getElem?_eq_getElem hiq]
  unfold qu
  rw [List.getD_eq_getElem?_getD,List.getElem?_eq_getElem hiq]
  rfl
 have hqc:checkPipe (qu m (insB m.g i+k))=0:=by
  unfold qu
  rw [List.getD_eq_getElem?_getD,List.getElem?_eq_getElem hiq]
  exact hq _ (List.getElem_mem hiq)
 conv=>whnf
 repeat' first|exact True.intro|(refine fun (b:Bool) hb=>?_;cases b<;>first|exact absurd hb (by decide)|exact nfl hb|exact nfr hb|skip)|refine ⟨_,⟨rfl,rfl⟩,?_⟩|refine And.intro (a:=chkPast _ _ _ _ _ _ _ _) ?_ ?_|fail
 rotate_left
 ·exact absurd (of_decide_eq_true (by assumption:decide (((ndG m.g i).ins.length:Int)=0)=true)) (by omega)
 conv=>whnf
 apply Exists.intro
 apply And.intro
 ·refine ⟨m.g,i,rfl,⟨Nat.le_of_lt h.lt,hsm⟩,?_⟩
  exact ⟨rfl,rfl⟩
 conv=>whnf
 repeat' first|refine ⟨_,⟨rfl,rfl⟩,?_⟩|fail
 conv=>whnf
 apply Exists.intro
 apply And.intro
 ·conv=>whnf
  refine ⟨_,hei,?_⟩
  repeat' first|refine ⟨rfl,?_⟩|fail
  exact rfl
 conv=>whnf
 refine ⟨trivial,?_⟩
 conv=>whnf
 repeat' first|refine ⟨_,⟨rfl,rfl⟩,?_⟩|refine ⟨_,And.intro (a:=I64 _) ?_ ⟨rfl,rfl⟩,?_⟩|refine ⟨rfl,?_⟩|fail
 ·rw [hk];unfold I64;omega
 conv=>whnf
 refine ⟨insB m.g i+k,by rw [hk];omega,by rw [List.length_map];exact hiq,?_⟩
 skip
 refine ⟨_,hgq,?_⟩
 repeat' first|(refine fun (b:Bool) hb=>?_;cases b<;>first|exact absurd hb (by decide)|exact nfl hb|exact nfr hb|skip)|(refine fun (hl:_≤MAXL)=>?_)|refine ⟨rfl,?_⟩|fail
 ·
  have hb0:(qu m (insB m.g i+k)).b=[]:=by
   have h:=of_decide_eq_false (by assumption:decide (0<((qu m (insB m.g i+k)).b.length:Int))=false)
   exact List.length_eq_zero_iff.1 (by omega)
  refine ⟨insB m.g i+k,by rw [hk];omega,by rw [List.length_map];exact hiq,?_⟩
  skip
  refine ⟨_,hgq,?_⟩
  repeat' first|(refine fun (b:Bool) hb=>?_;cases b<;>first|exact absurd hb (by decide)|exact nfl hb|exact nfr hb|skip)|fail
  rotate_left
  ·have hcl:(qu m (insB m.g i+k)).closed=false:=by simpa using ‹(!(qu m (insB m.g i+k)).closed)=true›
   conv=>whnf
   refine hF [.box (nodeV (ndG m.g i)).cells] ?_
   unfold readM
   dsimp only
   rw [hkt,if_neg h0,if_neg (by rw [hb0];simp),if_pos hcl]
  have hcl:¬ (qu m (insB m.g i+k)).closed=false:=by
   have:=‹(!(qu m (insB m.g i+k)).closed)=false›
   simpa using this
  conv=>whnf
  refine ⟨_,hei,?_⟩
  repeat' first|refine And.intro (a:=I64 _) ?_ ?_|fail
  ·rw [hk];unfold I64;omega
  refine ⟨_,hei,?_⟩
  have hnext:(els.set i (procF (pr m i))).set i (.agg [.own 3,.int .i64 ((pr m i).pos+1),.own 4,.bool (pr m i).read,.bool (pr m i).over])=els.set i (procF (nextP (pr m i))):=by rw [List.set_set];rfl
  conv=>whnf
  refine qd_ [0,1] (σ:=Unit) (fun _=>[(57,.bool (decide ((pr m i).pos+1=((ndG m.g i).ins.length:Int))))]) (fun _=>[.box [.sl nodeV m.g,.sl fileV m.f,.own 1,.own 2,.sl byteV m.sunk],.row 4 (m.pipes.map pipeV),.rowq 5 (els.set i (procF (nextP (pr m i)))),.row 1 ((pr m i).got.map blV),.row 1 ((pr m i).out.map blV)]) (fun _=>True) ?_
  conv=>whnf
  refine ⟨?_,fun _ _=>?_⟩
  ·conv=>whnf
   repeat' first|refine ⟨_,⟨rfl,rfl⟩,?_⟩|fail
   conv=>whnf
   apply Exists.intro
   apply And.intro
   ·conv=>whnf
    refine ⟨_,List.getElem?_set_self (by rw [hel];exact h.lt),?_⟩
    repeat' first|refine ⟨rfl,?_⟩|fail
    exact rfl
   conv=>whnf
   refine ⟨trivial,?_⟩
   conv=>whnf
   repeat' first|exact True.intro|refine ⟨_,⟨rfl,rfl⟩,?_⟩|refine ⟨_,(fun _=>⟨rfl,rfl⟩),?_⟩|refine And.intro (a:=chkPast _ _ _ _ _ _ _ _) ?_ ?_|fail
   conv=>whnf
   rw [hnext]
   exact ⟨(),(by (refine qc_ [some 0,some 1,some 2,some 3,some 4] rfl rfl ?_ ?_<;>(repeat' (first|exact qg_ hpe rfl rfl|exact True.intro|exact rfl|exact Or.inl rfl|exact Or.inr rfl|refine And.intro ?_ ?_|fail)))),trivial⟩
  have hpn:pr (setP m i (nextP (pr m i))) i=nextP (pr m i):=by rw [z9_ hmp,if_pos rfl]
  have hFn:FocOK (setP m i (nextP (pr m i))) i els:=qmi_ h rfl rfl (by show (m.p.set i _).length=_;rw [List.length_set]) rfl (by rw [hpn];rfl) (by rw [hpn];rfl) h.room
  have hrow:[.box [.sl nodeV m.g,.sl fileV m.f,.own 1,.own 2,.sl byteV m.sunk],.row 4 (m.pipes.map pipeV),.rowq 5 (els.set i (procF (nextP (pr m i)))),.row 1 ((pr m i).got.map blV),.row 1 ((pr m i).out.map blV)]=focR (setP m i (nextP (pr m i))) i els:=(q2_ hmp).symm
  conv=>whnf
  repeat' first|(refine fun (b:Bool) hb=>?_;cases b<;>first|exact absurd hb (by decide)|exact nfl hb|exact nfr hb|skip)|fail
  ·have hne:¬ (pr m i).pos+1=(nI m.g i:Int):=of_decide_eq_false (by assumption:decide ((pr m i).pos+1=((ndG m.g i).ins.length:Int))=false)
   conv=>whnf
   have hfin:=hT (setP m i (nextP (pr m i))) [] (by
    unfold readM
    dsimp only
    rw [hkt,if_neg h0,if_neg (by rw [hb0];simp),if_neg hcl,if_neg hne])
   rw [←hrow] at hfin
   exact hfin
  ·have hne:(pr m i).pos+1=(nI m.g i:Int):=of_decide_eq_true (by assumption:decide ((pr m i).pos+1=((ndG m.g i).ins.length:Int))=true)
   conv=>whnf
   refine ⟨setP m i (nextP (pr m i)),i,els,rfl,hFn,?_,hrow,fun ex=>?_⟩
   ·rw [hpn]
    show (pr m i).got.flatten.length≤500000000
    omega
   conv=>whnf
   refine hT _ ex ?_
   unfold readM
   dsimp only
   rw [hkt,if_neg h0,if_neg (by rw [hb0];simp),if_neg hcl,if_pos hne]
 ·
  have hbn:(qu m (insB m.g i+k)).b≠[]:=by
   have h:=of_decide_eq_true (by assumption:decide (0<((qu m (insB m.g i+k)).b.length:Int))=true)
   intro e
   rw [e] at h
   exact absurd h (by decide)
  obtain ⟨r1,r2⟩:=read8 hqc
  refine ⟨insB m.g i+k,by rw [hk];omega,by rw [List.length_map];exact hiq,?_⟩
  skip
  refine ⟨_,hgq,?_⟩
  skip
  refine ⟨qu m (insB m.g i+k),8,rfl,?_⟩
  skip
  conv=>whnf
  refine qd_ [0,1,9] (σ:=Unit) (fun _=>[]) (fun _=>[.box [.sl nodeV m.g,.sl fileV m.f,.own 1,.own 2,.sl byteV m.sunk],.row 4 ((m.pipes.set (insB m.g i+k) (pipeRead (qu m (insB m.g i+k)) 8).1).map pipeV),.rowq 5 (els.set i (procF (pr m i))),.row 1 ((pr m i).got.map blV),.row 1 ((pr m i).out.map blV)]) (fun _=>True) ?_
  conv=>whnf
  refine ⟨?_,fun _ _=>?_⟩
  ·conv=>whnf
   repeat' first|exact True.intro|refine ⟨_,⟨rfl,rfl⟩,?_⟩|refine And.intro (a:=chkPast _ _ _ _ _ _ _ _) ?_ ?_|fail
   conv=>whnf
   apply Exists.intro
   apply And.intro
   ·refine ⟨rfl,insB m.g i+k,by rw [hk];omega,by rw [List.length_map];exact hiq,?_⟩
    exact ⟨rfl,rfl⟩
   conv=>whnf
   refine ⟨trivial,?_⟩
   conv=>whnf
   apply Exists.intro
   apply Exists.intro
   apply And.intro
   ·conv=>whnf
    refine ⟨by rw [List.length_map];exact hiq,?_⟩
    exact ⟨rfl,rfl⟩
   conv=>whnf
   repeat' first|exact True.intro|refine And.intro (a:=chkPend _ _ _ _ _ _) ?_ ?_|fail
   conv=>whnf
   rw [List.map_set]
   exact ⟨(),(by (refine qc_ [some 0,some 1,some 2,some 3,some 4] rfl rfl ?_ ?_<;>(repeat' (first|exact qg_ hpe rfl rfl|exact True.intro|exact rfl|exact Or.inl rfl|exact Or.inr rfl|refine And.intro ?_ ?_|fail)))),trivial⟩
  have hqx:setQ m (insB m.g i+k) ⟨(qu m (insB m.g i+k)).b.drop 8,(qu m (insB m.g i+k)).room,(qu m (insB m.g i+k)).closed,(qu m (insB m.g i+k)).shut⟩=setQ m (insB m.g i+k) (pipeRead (qu m (insB m.g i+k)) 8).1:=by rw [r1]
  have hqall:∀ p∈m.pipes.set (insB m.g i+k) (pipeRead (qu m (insB m.g i+k)) 8).1,checkPipe p=0:=fun p hp=>by
   rcases List.mem_or_eq_of_mem_set hp with hp|rfl
   ·exact hq p hp
   ·rw [r1];exact qsv_ hqc 8
  have hFq:FocOK (setQ m (insB m.g i+k) (pipeRead (qu m (insB m.g i+k)) 8).1) i els:=qmi_ h rfl rfl rfl List.length_set rfl rfl fun p hp=>by
   have:=q9_ ((qz_ p).trans (hqall p hp))
   omega
  have hb8:(pipeRead (qu m (insB m.g i+k)) 8).2.1.length≤8:=by rw [r2,List.length_take];omega
  conv=>whnf
  refine ⟨setQ m (insB m.g i+k) (pipeRead (qu m (insB m.g i+k)) 8).1,i,els,(pipeRead (qu m (insB m.g i+k)) 8).2.1,rfl,hFq,⟨hqall,hp0,hp1,?_,hsk⟩,rfl,fun ex=>?_⟩
  ·show (pr m i).got.flatten.length+_≤400000000
   omega
  conv=>whnf
  refine hT _ ex ?_
  unfold readM
  dsimp only
  rw [hkt,if_neg h0,if_pos hbn,hqx,r2]
end Gv
namespace Gv
variable [Glob] [Laid]
def pipeClose (p:PipeS):PipeS × Int:=if pipeCheck p≠0 then (noPipe,pipeCheck p) else if p.closed=true then (noPipe,7) else ({p with closed:=true},0)
theorem qpx_:callable Tryz.prog 123=true:=by kernel_rfl
def close_S:Spec:=fun args K=>∃ p,args=[pipeV p]∧K (.tup [pipeV (pipeClose p).1,.int .i64 (pipeClose p).2])
noncomputable def close_lib:List (Nat × Spec):=[(21,check_S),(66,cloneB_S),(214,concatB_S)]
noncomputable def close_fns:List (Nat × FnI):=[(213,{fn:=Tryz.f213,hooks:=[],draws:=[(5,[0,0,2,6,14,0,32,96,224,480,1022,2047,4095]),(7,[0,0,2,6,14,0,0,96,254,510,1023,2047,4095])]})]
noncomputable def close_prims:List (Nat × PSpec):=[]
theorem qt8_:EnvOK ⟨Tryz.prog,tys,close_lib,close_fns,close_prims,[]⟩:=qf_ mixed0 tys0 (.cons vh_ vo_ (.cons zi_ ze_ (.cons zw_ z0_ .nil))) (.cons (by kernel_rfl) ⟨Tryz.func213,by kernel_rfl,by kernel_rfl⟩ .nil) .nil rfl
theorem qrn_:Pure Tryz.prog 123 close_S:=by
 refine qe_ qt8_ 6 (fi:={fn:=Tryz.f123,hooks:=[],draws:=[]}) ⟨Tryz.func123,by kernel_rfl,by kernel_rfl⟩ ?_
 rintro _ K ⟨p,rfl,hK⟩
 replace hK:∀ r,r=.tup [pipeV (pipeClose p).1,.int .i64 (pipeClose p).2]→K r:=fun r h=>h ▸ hK
 refine ⟨p,rfl,?_⟩
 repeat' first|(refine fun (b:Bool) hb=>?_;cases b<;>first|exact absurd hb (by decide)|exact nfl hb|exact nfr hb|skip)|refine ⟨UInt8,byteV,?_⟩|fail
 ·have hc:pipeCheck p=0:=by grind
  have hs:=q9_ hc
  refine ⟨_,rfl,by omega,?_⟩
  refine hK _ ?_
  grind [pipeClose,pipeV]
 all_goals (refine hK _ ?_;grind [pipeClose,noPipe,pipeV])
end Gv
namespace Gv
variable [Glob] [Laid] [Nums] [Errs]
def stepZ (m:MachS) (i:Nat):Prop:=(∀ q∈m.pipes,checkPipe q=0)∧0≤(pr m i).pos∧((pr m i).read=true∨nI m.g i=0∨(pr m i).pos<(nI m.g i:Int))∧(pr m i).got.flatten.length+8≤400000000∧m.sunk.length≤500000000
theorem qjo_ (p:PipeS):((pipeClose p).2=0→(pipeClose p).1=closeP p)∧((pipeClose p).2≠0→closeP p=p):=by
 unfold pipeClose closeP
 rw [qz_]
 by_cases hc:checkPipe p=0
 ·rw [if_neg (by rw [hc];decide),if_pos hc]
  cases hcl:p.closed with
  | true =>
   rw [if_pos rfl]
   refine ⟨fun h=>absurd h (by decide),fun _=>?_⟩
   obtain ⟨b,r,c,s⟩:=p
   dsimp only at hcl
   rw [hcl]
  | false =>
   rw [if_neg (by decide)]
   exact ⟨fun _=>rfl,fun h=>absurd rfl h⟩
 ·rw [if_pos hc,if_neg hc]
  exact ⟨fun h=>absurd h hc,fun _=>rfl⟩
theorem qcz_ {α:Type} (l:List α) (r:Nat) (d : α) (h:r<l.length):l.set r (l.getD r d)=l:=by
 rw [List.getD_eq_getElem?_getD,List.getElem?_eq_getElem h]
 simp
theorem qct_ {m:MachS} {i k:Nat} (ho:(pr m i).over=false) (hk:k<(pr m i).out.length) (hc:canW m i k=true) (hn:∀ j,j<k→canW m i j=false):stepM m i=(doW m i k,0):=by
 have ha:(pr m i).out.any (fun b=>decide (b≠[]))=true:=by
  rw [List.any_eq_true]
  refine ⟨outK m i k,?_,?_⟩
  ·unfold outK
   rw [List.getD_eq_getElem?_getD,List.getElem?_eq_getElem hk]
   exact List.getElem_mem hk
  ·unfold canW at hc
   simp only [Bool.and_eq_true] at hc
   exact hc.1.1.1
 have hf:(List.range (pr m i).out.length).find? (canW m i)=some k:=by
  rw [List.find?_range_eq_some]
  refine ⟨hc,by simpa using hk,fun j hj=>by rw [hn j hj];rfl⟩
 unfold stepM
 rw [if_neg (by rw [ho];decide),if_pos ha,hf]
theorem qcj_ {m:MachS} {i:Nat} (ho:(pr m i).over=false) (ha:(pr m i).out.any (fun b=>decide (b≠[]))=true) (hn:∀ k,k<(pr m i).out.length→canW m i k=false):stepM m i=(m,8):=by
 have hf:(List.range (pr m i).out.length).find? (canW m i)=none:=by
  rw [List.find?_eq_none]
  intro k hk
  rw [hn k (List.mem_range.1 hk)]
  decide
 unfold stepM
 rw [if_neg (by rw [ho];decide),if_pos ha,hf]
theorem qrf_:callable Tryz.prog 55=true:=by kernel_rfl
def stepF_P:PSpec:=fun args rows K=>StepF stepZ args rows K
noncomputable def stepF_lib:List (Nat × Spec):=[(122,readerX_S),(123,close_S)]
noncomputable def stepF_fns:List (Nat × FnI):=[(119,{fn:=Tryz.f119,hooks:=[],draws:=[]}),(161,{fn:=Tryz.f161,hooks:=[],draws:=[]}),(120,{fn:=Tryz.f120,hooks:=[],draws:=[]}),(121,{ fn:=Tryz.f121,spec:=some writeF_P }),(124,{ fn:=Tryz.f124,spec:=some readF_P })]
noncomputable def stepF_prims:List (Nat × PSpec):=[]
theorem qts_:EnvOK ⟨Tryz.prog,tys,stepF_lib,stepF_fns,stepF_prims,[]⟩:=qf_ mixed0 tys0 (.cons qcx_ qb5_ (.cons qpx_ qrn_ .nil)) (.cons (by kernel_rfl) ⟨Tryz.func119,by kernel_rfl,by kernel_rfl⟩ (.cons (by kernel_rfl) ⟨Tryz.func161,by kernel_rfl,by kernel_rfl⟩ (.cons (by kernel_rfl) ⟨Tryz.func120,by kernel_rfl,by kernel_rfl⟩ (.told qex_ rfl qgd_ (.told qh0_ rfl qjn_ .nil))))) .nil rfl
theorem qjq_:PrimOK Tryz.prog 55 stepF_P:=by
 refine q3_ qts_ 6 qrf_ (fi:={fn:=Tryz.f55,hooks:=[18],draws:=[(15,[0,1,3,7,0,0,63,127])]}) ⟨Tryz.func55,by kernel_rfl,by kernel_rfl⟩ ?_
 rintro args rows K ⟨m,i,els,rfl,h,⟨hq,hp0,hp1,hsz,hsk⟩,rfl,hK⟩
 have hei:(els.set i (procF (pr m i)))[i]?=some (procF (pr m i)):=List.getElem?_set_self (by rw [h.nl];exact h.lt)
 have hel:(els.set i (procF (pr m i))).length=m.g.length:=by rw [List.length_set,h.nl]
 have hpe:=h.pe
 have hgf:=gf_of h.g
 have hmp:i<m.p.length:=by rw [h.np];exact h.lt
 unfold focR
 repeat' first|refine ⟨rfl,?_⟩|fail
 refine ⟨i,rfl,by rw [hel];exact h.lt,?_⟩
 conv=>whnf
 refine ⟨_,hei,?_⟩
 repeat' first|(refine fun (b:Bool) hb=>?_;cases b<;>first|exact absurd hb (by decide)|exact nfl hb|exact nfr hb|skip)|fail
 rotate_left
 ·have ho:(pr m i).over=true:=by assumption
  conv=>whnf
  have hfin:=hK []
  unfold stepM at hfin
  rw [if_pos ho] at hfin
  exact hfin
 have ho:(pr m i).over=false:=by assumption
 conv=>whnf
 refine ⟨_,hei,?_⟩
 repeat' first|(refine fun (hl:_≤MAXL)=>?_)|fail
 conv=>whnf
 refine qb_ [0,1,7] (σ:=Nat) (fun k=>[(8,.int .i64 k)]) (fun _=>[.box [.sl nodeV m.g,.sl fileV m.f,.own 1,.own 2,.sl byteV m.sunk],.row 4 (m.pipes.map pipeV),.rowq 5 (els.set i (procF (pr m i))),.row 1 ((pr m i).got.map blV),.row 1 ((pr m i).out.map blV)]) (fun k=>k≤(pr m i).out.length∧∀ j,j<k→outK m i j=[]) (fun k=>(pr m i).out.length-k) 0 ?_
 conv=>whnf
 refine ⟨(by (refine qc_ [some 0,some 1,some 2,some 3,some 4] rfl rfl ?_ ?_<;>(repeat' (first|exact qg_ hpe rfl rfl|exact True.intro|exact rfl|exact Or.inl rfl|exact Or.inr rfl|refine And.intro ?_ ?_|fail)))),⟨Nat.zero_le _,fun j hj=>by omega⟩,fun k hk=>?_⟩
 obtain ⟨hk,hno⟩:=hk
 repeat' first|(refine fun (b:Bool) hb=>?_;cases b<;>first|exact absurd hb (by decide)|exact nfl hb|exact nfr hb|skip)|refine ⟨rfl,?_⟩|fail
 ·have hkl:k=(pr m i).out.length := by
   have h:=of_decide_eq_false (by assumption:decide ((k:Int)<(((pr m i).out.map blV).length:Int))=false)
   rw [List.length_map] at h
   omega
  subst hkl
  have hany:¬ (pr m i).out.any (fun b=>decide (b≠[]))=true:=fun e=>by
   rw [List.any_eq_true] at e
   obtain ⟨b,hb,hd⟩:=e
   obtain ⟨j,hj,rfl⟩:=List.getElem_of_mem hb
   have:=hno j hj
   unfold outK at this
   rw [List.getD_eq_getElem?_getD,List.getElem?_eq_getElem hj] at this
   exact of_decide_eq_true hd this
  conv=>whnf
  refine ⟨_,hei,?_⟩
  repeat' first|(refine fun (b:Bool) hb=>?_;cases b<;>first|exact absurd hb (by decide)|exact nfl hb|exact nfr hb|skip)|fail
  ·
   have hr:(pr m i).read=false:=by assumption
   have hp1:=hp1.resolve_left (by rw [hr];decide)
   have hst:∀ o,readM m i=o→stepM m i=match o with|some m'=>(m',0)|none=>(m,8):=fun o ho2=>by
    unfold stepM
    rw [if_neg (by rw [ho];decide),if_neg hany,if_neg (by rw [hr];decide),ho2]
    cases o<;>rfl
   conv=>whnf
   refine ⟨m,i,els,rfl,h,⟨hq,hp0,hp1,hsz,hsk⟩,rfl,fun m' ex hm=>?_,fun ex hm=>?_⟩
   ·conv=>whnf
    have hfin:=hK ex
    rw [hst _ hm] at hfin
    exact hfin
   ·conv=>whnf
    have hfin:=hK ex
    rw [hst _ hm] at hfin
    exact hfin
  have hr:(pr m i).read=true:=by assumption
  conv=>whnf
  refine ⟨_,hei,?_⟩
  repeat' first|(refine fun (hl:_≤MAXL)=>?_)|fail
  conv=>whnf
  refine qb_ [0,1,5,37] (σ:=Nat) (fun k=>[(38,.int .i64 k)]) (fun k=>[.box [.sl nodeV m.g,.sl fileV m.f,.own 1,.own 2,.sl byteV m.sunk],.row 4 ((closeQs m i k).map pipeV),.rowq 5 (els.set i (procF (pr m i))),.row 1 ((pr m i).got.map blV),.row 1 ((pr m i).out.map blV)]) (fun k=>k≤(pr m i).out.length) (fun k=>(pr m i).out.length-k) 0 ?_
  conv=>whnf
  refine ⟨(by (refine qc_ [some 0,some 1,some 2,some 3,some 4] rfl rfl ?_ ?_<;>(repeat' (first|exact qg_ hpe rfl rfl|exact True.intro|exact rfl|exact Or.inl rfl|exact Or.inr rfl|refine And.intro ?_ ?_|fail)))),Nat.zero_le _,fun k hk=>?_⟩
  repeat' first|(refine fun (b:Bool) hb=>?_;cases b<;>first|exact absurd hb (by decide)|exact nfl hb|exact nfr hb|skip)|fail
  ·have hkl:k=(pr m i).out.length := by
    have h:=of_decide_eq_false (by assumption:decide ((k:Int)<(((pr m i).out.map blV).length:Int))=false)
    rw [List.length_map] at h
    omega
   subst hkl
   have hs:stepM m i=(closeM m i,0):=by
    unfold stepM
    rw [if_neg (by rw [ho];decide),if_neg hany,if_pos hr]
   have hf:focR (closeM m i) i els=[.box [.sl nodeV m.g,.sl fileV m.f,.own 1,.own 2,.sl byteV m.sunk],.row 4 ((closeQs m i (pr m i).out.length).map pipeV),.rowq 5 (els.set i (procF ⟨(pr m i).got,(pr m i).pos,(pr m i).out,(pr m i).read,true⟩)),.row 1 ((pr m i).got.map blV),.row 1 ((pr m i).out.map blV)]:=q2_ hmp
   conv=>whnf
   refine qd_ [] (σ:=Unit) (fun _=>[]) (fun _=>[.box [.sl nodeV m.g,.sl fileV m.f,.own 1,.own 2,.sl byteV m.sunk],.row 4 ((closeQs m i (pr m i).out.length).map pipeV),.rowq 5 (els.set i (procF ⟨(pr m i).got,(pr m i).pos,(pr m i).out,(pr m i).read,true⟩)),.row 1 ((pr m i).got.map blV),.row 1 ((pr m i).out.map blV)]) (fun _=>True) ?_
   conv=>whnf
   refine ⟨?_,fun _ _=>?_⟩
   ·conv=>whnf
    refine ⟨_,hei,?_⟩
    conv=>whnf
    rw [List.set_set]
    refine ⟨(),?_,trivial⟩
    refine qc_ [some 0,some 1,some 2,some 3,some 4] rfl rfl ?_ ?_<;>(repeat' (first|exact ye_ hpe ⟨rfl,rfl,rfl,rfl,Or.inr rfl,trivial⟩|exact True.intro|exact rfl|exact Or.inl rfl|exact Or.inr rfl|refine And.intro ?_ ?_|fail))
    all_goals done
   conv=>whnf
   have hfin:=hK []
   rw [hs] at hfin
   dsimp only at hfin
   rw [hf] at hfin
   exact hfin
  have hk2:k<(pr m i).out.length:=by
   have h:=of_decide_eq_true (by assumption:decide ((k:Int)<(((pr m i).out.map blV).length:Int))=true)
   rw [List.length_map] at h
   omega
  have hrl:=qh8_ h hk2
  have hlen:=yu_ m i k
  have hrq:rdr m i k<(closeQs m i k).length:=by rw [hlen,h.nq];exact hrl
  have hgq:((closeQs m i k).map pipeV)[rdr m i k]?=some (pipeV ((closeQs m i k).getD (rdr m i k) zP)):=by
   rw [List.getElem?_map,List.getElem?_eq_getElem hrq,List.getD_eq_getElem?_getD,List.getElem?_eq_getElem hrq]
   rfl
  obtain ⟨c1,c2⟩:=qjo_ ((closeQs m i k).getD (rdr m i k) zP)
  conv=>whnf
  refine ⟨m.g,⟨i,k⟩,rfl,qq_ h.g,?_⟩
  rw [show readerI m.g ⟨(i:Int),(k:Int)⟩=rdr m i k from rfl,if_pos hrl]
  repeat' first|refine ⟨rfl,?_⟩|fail
  refine ⟨rdr m i k,rfl,by rw [List.length_map];exact hrq,?_⟩
  conv=>whnf
  refine ⟨_,hgq,?_⟩
  skip
  refine ⟨(closeQs m i k).getD (rdr m i k) zP,rfl,?_⟩
  repeat' first|exact True.intro|(refine fun (b:Bool) hb=>?_;cases b<;>first|exact absurd hb (by decide)|exact nfl hb|exact nfr hb|skip)|refine And.intro (a:=I64 _) ?_ ?_|refine ⟨_,⟨rfl,rfl⟩,?_⟩|refine And.intro (a:=chkPast _ _ _ _ _ _ _ _) ?_ ?_|fail
  ·have hM:((pr m i).out.map blV).length≤MAXL:=by assumption
   rw [List.length_map] at hM
   unfold I64;unfold MAXL at hM;omega
  ·have hne:=of_decide_eq_false (by assumption:decide ((pipeClose ((closeQs m i k).getD (rdr m i k) zP)).2=0)=false)
   have hst:closeQs m i (k+1)=closeQs m i k:=by
    show (closeQs m i k).set (rdr m i k) (closeP ((closeQs m i k).getD (rdr m i k) zP))=closeQs m i k
    rw [c2 hne,qcz_ _ _ _ hrq]
   refine ⟨k+1,?_,hk2,by omega⟩
   show Wk _ _ _ _ [.box [.sl nodeV m.g,.sl fileV m.f,.own 1,.own 2,.sl byteV m.sunk],.row 4 ((closeQs m i (k+1)).map pipeV),.rowq 5 (els.set i (procF (pr m i))),.row 1 ((pr m i).got.map blV),.row 1 ((pr m i).out.map blV)]
   rw [hst]
   exact (by (refine qc_ [some 0,some 1,some 2,some 3,some 4] rfl rfl ?_ ?_<;>(repeat' (first|exact qg_ hpe rfl rfl|exact True.intro|exact rfl|exact Or.inl rfl|exact Or.inr rfl|refine And.intro ?_ ?_|fail))))
  have hne:=of_decide_eq_true (by assumption:decide ((pipeClose ((closeQs m i k).getD (rdr m i k) zP)).2=0)=true)
  have hst:closeQs m i (k+1)=(closeQs m i k).set (rdr m i k) (pipeClose ((closeQs m i k).getD (rdr m i k) zP)).1:=by
   rw [c1 hne];rfl
  conv=>whnf
  apply Exists.intro
  apply And.intro
  ·refine ⟨rfl,rdr m i k,rfl,by rw [List.length_map];exact hrq,?_⟩
   exact ⟨rfl,rfl⟩
  conv=>whnf
  refine ⟨trivial,?_⟩
  conv=>whnf
  apply Exists.intro
  apply Exists.intro
  apply And.intro
  ·conv=>whnf
   refine ⟨by rw [List.length_map];exact hrq,?_⟩
   exact ⟨rfl,rfl⟩
  conv=>whnf
  repeat' first|exact True.intro|refine And.intro (a:=I64 _) ?_ ?_|refine And.intro (a:=chkPend _ _ _ _ _ _) ?_ ?_|fail
  conv=>whnf
  skip
  ·have hM:((pr m i).out.map blV).length≤MAXL:=by assumption
   rw [List.length_map] at hM
   unfold MAXL at hM;(try unfold I64);omega
  refine ⟨k+1,?_,hk2,by omega⟩
  show Wk _ _ _ _ [.box [.sl nodeV m.g,.sl fileV m.f,.own 1,.own 2,.sl byteV m.sunk],.row 4 ((closeQs m i (k+1)).map pipeV),.rowq 5 (els.set i (procF (pr m i))),.row 1 ((pr m i).got.map blV),.row 1 ((pr m i).out.map blV)]
  rw [hst,List.map_set]
  exact (by (refine qc_ [some 0,some 1,some 2,some 3,some 4] rfl rfl ?_ ?_<;>(repeat' (first|exact qg_ hpe rfl rfl|exact True.intro|exact rfl|exact Or.inl rfl|exact Or.inr rfl|refine And.intro ?_ ?_|fail))))
 ·have hk2:k<(pr m i).out.length := by
   have h:=of_decide_eq_true (by assumption:decide ((k:Int)<(((pr m i).out.map blV).length:Int))=true)
   rw [List.length_map] at h
   omega
  have hgk:((pr m i).out.map blV)[k]?=some (blV (outK m i k)):=by
   unfold outK
   rw [List.getElem?_map,List.getElem?_eq_getElem hk2,List.getD_eq_getElem?_getD,List.getElem?_eq_getElem hk2];rfl
  refine ⟨k,rfl,by rw [List.length_map];exact hk2,?_⟩
  conv=>whnf
  refine ⟨_,hgk,?_⟩
  repeat' first|(refine fun (b:Bool) hb=>?_;cases b<;>first|exact absurd hb (by decide)|exact nfl hb|exact nfr hb|skip)|(refine fun (hl:_≤MAXL)=>?_)|refine And.intro (a:=I64 _) ?_ ?_|fail
  ·have hM:((pr m i).out.map blV).length≤MAXL:=by assumption
   rw [List.length_map] at hM
   unfold I64;unfold MAXL at hM;omega
  ·have he:outK m i k=[] := by
    have h:=of_decide_eq_false (by assumption:decide (0<((outK m i k).length:Int))=false)
    exact List.length_eq_zero_iff.1 (by omega)
   refine ⟨k+1,(by (refine qc_ [some 0,some 1,some 2,some 3,some 4] rfl rfl ?_ ?_<;>(repeat' (first|exact qg_ hpe rfl rfl|exact True.intro|exact rfl|exact Or.inl rfl|exact Or.inr rfl|refine And.intro ?_ ?_|fail)))),⟨by omega,fun j hj=>?_⟩,by omega⟩
   rcases Nat.lt_or_ge j k with h2|h2
   ·exact hno j h2
   ·obtain rfl:j=k:=by omega
    exact he
  have hne:outK m i k≠[]:=by
   have h:=of_decide_eq_true (by assumption:decide (0<((outK m i k).length:Int))=true)
   intro e
   rw [e] at h
   exact absurd h (by decide)
  have hany:(pr m i).out.any (fun b=>decide (b≠[]))=true:=by
   rw [List.any_eq_true]
   refine ⟨outK m i k,?_,decide_eq_true hne⟩
   unfold outK
   rw [List.getD_eq_getElem?_getD,List.getElem?_eq_getElem hk2]
   exact List.getElem_mem hk2
  conv=>whnf
  refine ⟨m,i,els,rfl,h,rfl,fun j ex hj hc hn=>?_,fun hn ex=>?_⟩
  ·conv=>whnf
   have hfin:=hK ex
   rw [qct_ ho hj hc hn] at hfin
   exact hfin
  ·conv=>whnf
   have hfin:=hK ex
   rw [qcj_ ho hany hn] at hfin
   exact hfin
end Gv
namespace Gv
variable [Glob] [Laid]
theorem qi7_:callable Tryz.prog 127=true:=by kernel_rfl
def clonePo_S:Spec:=fun args K=>∃ a:List Port,args=[.sl portV a]∧a.length≤1000000000∧K (.sl portV a)
noncomputable def clonePo_lib:List (Nat × Spec):=[]
noncomputable def clonePo_fns:List (Nat × FnI):=[]
noncomputable def clonePo_prims:List (Nat × PSpec):=[]
theorem qmo_:EnvOK ⟨Tryz.prog,tys,clonePo_lib,clonePo_fns,clonePo_prims,[]⟩:=qf_ mixed0 tys0 .nil .nil .nil rfl
theorem qjd_:Pure Tryz.prog 127 clonePo_S:=by
 refine qe_ qmo_ 6 (fi:={fn:=Tryz.f127,hooks:=[],draws:=[]}) ⟨Tryz.func127,by kernel_rfl,by kernel_rfl⟩ ?_
 rintro _ K ⟨a,rfl,hx,hK⟩
 replace hK:∀ r,r=.sl portV a→K r:=fun r h=>h ▸ hK
 repeat' first|refine ⟨_,_,_,LeL.refl _,?_⟩|(refine fun (b:Bool) hb=>?_;cases b<;>first|exact absurd hb (by decide)|exact nfl hb|exact nfr hb|skip)|refine And.intro (a:=_≤140737488355328) ?_ ?_|refine ⟨(fun _=>rfl),?_⟩|refine ⟨Port,portV,?_⟩|fail
 ·show (0+(a.map portV).length)*16≤140737488355328
  rw [List.length_map]
  omega
 ·exact hK _ rfl
 ·have e:true=true→a=[]:=by assumption
  have e:=e rfl
  subst e
  exact hK _ rfl
end Gv
namespace Gv
variable [Glob] [Laid]
theorem qcf_:callable Tryz.prog 63=true:=by kernel_rfl
def copiedX_S:Spec:=fun args K=>∃ (l:List Gp.Node),args=[.agg [.sl nodeV l]]∧(l.length≤1000∧∀ n∈l,n.ins.length≤1000000000)∧K (.agg [.sl nodeV l])
noncomputable def copiedX_lib:List (Nat × Spec):=[(127,clonePo_S)]
noncomputable def copiedX_fns:List (Nat × FnI):=[(126,{fn:=Tryz.f126,hooks:=[],draws:=[]})]
noncomputable def copiedX_prims:List (Nat × PSpec):=[]
theorem qk5_:EnvOK ⟨Tryz.prog,tys,copiedX_lib,copiedX_fns,copiedX_prims,[]⟩:=qf_ mixed0 tys0 (.cons qi7_ qjd_ .nil) (.cons (by kernel_rfl) ⟨Tryz.func126,by kernel_rfl,by kernel_rfl⟩ .nil) .nil rfl
theorem qb3_:Pure Tryz.prog 63 copiedX_S:=by
 refine qe_ qk5_ 6 (fi:={fn:=Tryz.f63,hooks:=[2],draws:=[(5,[0,1,0,0,8,24,63,127,255])]}) ⟨Tryz.func63,by kernel_rfl,by kernel_rfl⟩ ?_
 rintro _ K ⟨l,rfl,⟨hl0,hfb⟩,hK⟩
 replace hK:∀ r,r=.agg [.sl nodeV l]→K r:=fun r h=>h ▸ hK
 conv=>whnf
 refine qd_ [1,2] (σ:=Unit) (fun _=>[(1,.ptr 0 0 0),(2,.ptr 1 0 0)]) (fun _=>[.box [.own 2],.box [.nil],.row 8 (l.map nodeV)]) (fun _=>True) ?_
 conv=>whnf
 refine ⟨?_,fun _ _=>?_⟩
 ·repeat' first|(refine fun (b:Bool) hb=>?_;cases b<;>first|exact absurd hb (by decide)|exact nfl hb|exact nfr hb|skip)|refine And.intro (a:=_≤140737488355328) ?_ ?_|refine ⟨(fun _=>rfl),?_⟩|fail
  ·show (0+(l.map nodeV).length)*96≤140737488355328
   rw [List.length_map]
   omega
  ·exact ⟨(),(by (refine qa_ ?_;refine Sel4.mk rfl rfl ?_ ?_<;>(repeat' first|exact True.intro|exact rfl|exact .inl rfl|exact .inr rfl|refine And.intro ?_ ?_|fail))),trivial⟩
  ·have h:true=true→l=[]:=by assumption
   rw [h rfl]
   exact ⟨(),(by (refine qa_ ?_;refine Sel4.mk rfl rfl ?_ ?_<;>(repeat' first|exact True.intro|exact rfl|exact .inl rfl|exact .inr rfl|refine And.intro ?_ ?_|fail))),trivial⟩
 conv=>whnf
 repeat' first|(refine fun (hl:_≤MAXL)=>?_)|fail
 conv=>whnf
 refine qb_ [1,2,10,11] (σ:=Nat) (fun i=>[(12,.int .i64 i)]) (fun _=>[.box [.own 2],.box [.nil],.row 8 (l.map nodeV)]) (fun i=>i≤l.length) (fun i=>l.length-i) 0 ?_
 conv=>whnf
 refine ⟨(by (refine qc_ [some 0,some 1,some 2] rfl rfl ?_ ?_<;>(repeat' first|exact True.intro|exact rfl|exact .inl rfl|exact .inr rfl|refine And.intro ?_ ?_|fail))),Nat.zero_le _,fun i hi=>?_⟩
 repeat' first|refine ⟨_,_,_,LeL.refl _,?_⟩|(refine fun (b:Bool) hb=>?_;cases b<;>first|exact absurd hb (by decide)|exact nfl hb|exact nfr hb|skip)|refine ⟨rfl,?_⟩|fail
 ·conv=>whnf
  exact hK _ rfl
 have hlt:i<l.length:=by
  have h:=of_decide_eq_true (by assumption:decide ((i:Int)<((l.map nodeV).length:Int))=true)
  rw [List.length_map] at h
  omega
 have hg:(l.map nodeV)[i]?=some (nodeV l[i]):=by rw [List.getElem?_map,List.getElem?_eq_getElem hlt];rfl
 have hlm:i<(l.map nodeV).length:=by rw [List.length_map];exact hlt
 refine ⟨i,rfl,hlm,?_⟩
 conv=>whnf
 refine ⟨_,hg,?_⟩
 repeat' first|exact True.intro|refine ⟨_,⟨rfl,rfl⟩,?_⟩|refine And.intro (a:=chkPast _ _ _ _ _ _ _ _) ?_ ?_|fail
 conv=>whnf
 apply Exists.intro
 apply And.intro
 ·refine ⟨l[i].ins,rfl,hfb _ (List.getElem_mem hlt),?_⟩
  exact ⟨rfl,rfl⟩
 conv=>whnf
 apply Exists.intro
 apply And.intro
 ·refine ⟨rfl,i,rfl,hlm,?_⟩
  exact ⟨rfl,rfl⟩
 conv=>whnf
 refine ⟨trivial,?_⟩
 conv=>whnf
 repeat' first|refine ⟨_,⟨rfl,rfl⟩,?_⟩|fail
 apply Exists.intro
 apply Exists.intro
 apply And.intro
 ·conv=>whnf
  refine ⟨_,hg,?_⟩
  exact ⟨rfl,rfl⟩
 conv=>whnf
 repeat' first|exact True.intro|refine And.intro (a:=I64 _) ?_ ?_|refine And.intro (a:=chkPend _ _ _ _ _ _) ?_ ?_|fail
 ·have hM:(l.map nodeV).length≤MAXL:=by assumption
  rw [List.length_map] at hM
  unfold I64;unfold MAXL at hM;omega
 refine ⟨i+1,?_,hlt,by omega⟩
 refine qc_ [some 0,some 1,some 2] rfl rfl ?_ ?_<;>(repeat' first|exact True.intro|exact rfl|exact .inl rfl|exact .inr rfl|refine And.intro ?_ ?_|fail)
 have e:(l.map nodeV).set i (nodeV l[i])=l.map nodeV:=by
  have:(l.map nodeV)[i]'hlm=nodeV l[i]:=by simp
  rw [←this,List.set_getElem_self]
 show Row.row 8 (l.map nodeV)=Row.row 8 ((l.map nodeV).set i (nodeV l[i]))
 rw [e]
end Gv
namespace Gv
variable [Glob] [Laid]
theorem qio_:callable Tryz.prog 64=true:=by kernel_rfl
def copyF_S:Spec:=fun args K=>∃ (l:List FileS),args=[.sl fileV l]∧(l.length≤1000∧∀ f∈l,f.b.length≤1000000000)∧K (.sl fileV l)
noncomputable def copyF_lib:List (Nat × Spec):=[(66,cloneB_S)]
noncomputable def copyF_fns:List (Nat × FnI):=[(128,{fn:=Tryz.f128,hooks:=[],draws:=[]})]
noncomputable def copyF_prims:List (Nat × PSpec):=[]
theorem qub_:EnvOK ⟨Tryz.prog,tys,copyF_lib,copyF_fns,copyF_prims,[]⟩:=qf_ mixed0 tys0 (.cons zi_ ze_ .nil) (.cons (by kernel_rfl) ⟨Tryz.func128,by kernel_rfl,by kernel_rfl⟩ .nil) .nil rfl
theorem qhu_:Pure Tryz.prog 64 copyF_S:=by
 refine qe_ qub_ 6 (fi:={fn:=Tryz.f64,hooks:=[2],draws:=[]}) ⟨Tryz.func64,by kernel_rfl,by kernel_rfl⟩ ?_
 rintro _ K ⟨l,rfl,⟨hl0,hfb⟩,hK⟩
 replace hK:∀ r,r=.sl fileV l→K r:=fun r h=>h ▸ hK
 conv=>whnf
 refine qd_ [] (σ:=Unit) (fun _=>[(0,.own 0)]) (fun _=>[.row 2 (l.map fileV)]) (fun _=>True) ?_
 conv=>whnf
 refine ⟨?_,fun _ _=>?_⟩
 ·repeat' first|(refine fun (b:Bool) hb=>?_;cases b<;>first|exact absurd hb (by decide)|exact nfl hb|exact nfr hb|skip)|refine And.intro (a:=_≤140737488355328) ?_ ?_|refine ⟨(fun _=>rfl),?_⟩|fail
  ·show (0+(l.map fileV).length)*40≤140737488355328
   rw [List.length_map]
   omega
  ·exact ⟨(),(by (refine qa_ ?_;refine Sel4.mk rfl rfl ?_ ?_<;>(repeat' first|exact True.intro|exact rfl|exact .inl rfl|exact .inr rfl|refine And.intro ?_ ?_|fail))),trivial⟩
  ·have h:true=true→l=[]:=by assumption
   rw [h rfl]
   exact ⟨(),(by (refine qa_ ?_;refine Sel4.mk rfl rfl ?_ ?_<;>(repeat' first|exact True.intro|exact rfl|exact .inl rfl|exact .inr rfl|refine And.intro ?_ ?_|fail))),trivial⟩
 repeat' first|(refine fun (hl:_≤MAXL)=>?_)|fail
 conv=>whnf
 refine qb_ [0,7,8] (σ:=Nat) (fun i=>[(9,.int .i64 i)]) (fun i=>[.row 2 (l.map fileV)]) (fun i=>i≤l.length) (fun i=>l.length-i) 0 ?_
 conv=>whnf
 refine ⟨(by (refine qa_ ?_;refine Sel4.mk rfl rfl ?_ ?_<;>(repeat' first|exact True.intro|exact rfl|exact .inl rfl|exact .inr rfl|refine And.intro ?_ ?_|fail))),Nat.zero_le _,fun i hi=>?_⟩
 repeat' first|refine ⟨_,_,_,LeL.refl _,?_⟩|(refine fun (b:Bool) hb=>?_;cases b<;>first|exact absurd hb (by decide)|exact nfl hb|exact nfr hb|skip)|refine ⟨rfl,?_⟩|fail
 ·conv=>whnf
  exact hK _ rfl
 have hlt:i<l.length:=by
  have h:=of_decide_eq_true (by assumption:decide ((i:Int)<((l.map fileV).length:Int))=true)
  rw [List.length_map] at h
  omega
 have hg:(l.map fileV)[i]?=some (fileV l[i]):=by rw [List.getElem?_map,List.getElem?_eq_getElem hlt];rfl
 have hlm:i<(l.map fileV).length:=by rw [List.length_map];exact hlt
 refine ⟨i,rfl,hlm,?_⟩
 conv=>whnf
 refine ⟨_,hg,?_⟩
 repeat' first|refine ⟨_,rfl,?_,rfl,?_⟩|fail
 ·exact hfb _ (List.getElem_mem hlt)
 refine ⟨i,rfl,hlm,?_⟩
 conv=>whnf
 refine ⟨_,hg,?_⟩
 repeat' first|refine And.intro (a:=I64 _) ?_ ?_|fail
 ·have hl1:(l.map fileV).length≤MAXL:=by assumption
  unfold I64;omega
 refine ⟨i+1,?_,hlt,by omega⟩
 (refine qa_ ?_;refine Sel4.mk rfl rfl ?_ ?_<;>(repeat' first|exact True.intro|exact rfl|exact .inl rfl|exact .inr rfl|refine And.intro ?_ ?_|fail))
 have e:(l.map fileV).set i (fileV l[i])=l.map fileV:=by
  have:(l.map fileV)[i]'hlm=fileV l[i]:=by simp
  rw [←this,List.set_getElem_self]
 show Row.row 2 (l.map fileV)=Row.row 2 ((l.map fileV).set i (fileV l[i]))
 rw [e]
end Gv
namespace Gv
variable [Glob] [Laid]
theorem qf2_:callable Tryz.prog 117=true:=by kernel_rfl
def clonePi0_P:PSpec:=fun args rows K=>∃ (l:List PipeS),args=[.sl pipeV l]∧rows=[]∧l.length≤1000000000∧K (.own 1) [.dead,.row 4 (l.map pipeV)]∧(l=[]→K .nil [])
noncomputable def clonePi0_lib:List (Nat × Spec):=[]
noncomputable def clonePi0_fns:List (Nat × FnI):=[]
noncomputable def clonePi0_prims:List (Nat × PSpec):=[]
theorem qkd_:EnvOK ⟨Tryz.prog,tys,clonePi0_lib,clonePi0_fns,clonePi0_prims,[]⟩:=qf_ mixed0 tys0 .nil .nil .nil rfl
theorem qdl_:PrimOK Tryz.prog 117 clonePi0_P:=by
 refine q3_ qkd_ 6 qf2_ (fi:={fn:=Tryz.f117,hooks:=[],draws:=[]}) ⟨Tryz.func117,by kernel_rfl,by kernel_rfl⟩ ?_
 rintro args rows K ⟨l,rfl,rfl,hl,hK,hN⟩
 repeat' first|(refine fun (b:Bool) hb=>?_;cases b<;>first|exact absurd hb (by decide)|exact nfl hb|exact nfr hb|skip)|refine And.intro (a:=_≤140737488355328) ?_ ?_|refine ⟨(fun _=>rfl),?_⟩|fail
 ·show (0+(l.map pipeV).length)*40≤140737488355328
  rw [List.length_map];omega
 ·exact hK
 ·have h:true=true→l=[]:=by assumption
  exact hN (h rfl)
end Gv
namespace Gv
variable [Glob] [Laid]
def clonePi_P:PSpec:=fun args rows K=>∃ (l:List PipeS),args=[.sl pipeV l]∧rows=[]∧l.length≤1000000000∧K (.own 1) [.dead,.row 4 (l.map pipeV)]
theorem qed_:PrimOK Tryz.prog 117 clonePi_P:=by
 intro w0 m0 args rows K R m q w us C hv hT
 obtain ⟨l,rfl,rfl,hl,hK⟩:=hT
 refine qip_ qdl_ w0 m0 _ _ K R m q w us C hv ⟨l,rfl,rfl,hl,.inl hK,fun h=>.inr ⟨rfl,4,?_⟩⟩
 subst h
 exact hK
end Gv
namespace Gv
variable [Glob] [Laid]
theorem qgc_:callable Tryz.prog 118=true:=by kernel_rfl
def clonePr0_P:PSpec:=fun args rows K=>∃ (l:List ProcS),args=[.sl procV l]∧rows=[]∧l.length≤1000000000∧K (.own 1) [.dead,.row 5 (l.map procV)]∧(l=[]→K .nil [])
noncomputable def clonePr0_lib:List (Nat × Spec):=[]
noncomputable def clonePr0_fns:List (Nat × FnI):=[]
noncomputable def clonePr0_prims:List (Nat × PSpec):=[]
theorem qka_:EnvOK ⟨Tryz.prog,tys,clonePr0_lib,clonePr0_fns,clonePr0_prims,[]⟩:=qf_ mixed0 tys0 .nil .nil .nil rfl
theorem qd0_:PrimOK Tryz.prog 118 clonePr0_P:=by
 refine q3_ qka_ 6 qgc_ (fi:={fn:=Tryz.f118,hooks:=[],draws:=[]}) ⟨Tryz.func118,by kernel_rfl,by kernel_rfl⟩ ?_
 rintro args rows K ⟨l,rfl,rfl,hl,hK,hN⟩
 repeat' first|(refine fun (b:Bool) hb=>?_;cases b<;>first|exact absurd hb (by decide)|exact nfl hb|exact nfr hb|skip)|refine And.intro (a:=_≤140737488355328) ?_ ?_|refine ⟨(fun _=>rfl),?_⟩|fail
 ·show (0+(l.map procV).length)*64≤140737488355328
  rw [List.length_map];omega
 ·exact hK
 ·have h:true=true→l=[]:=by assumption
  exact hN (h rfl)
end Gv
namespace Gv
variable [Glob] [Laid]
def clonePr_P:PSpec:=fun args rows K=>∃ (l:List ProcS),args=[.sl procV l]∧rows=[]∧l.length≤1000000000∧K (.own 1) [.dead,.row 5 (l.map procV)]
theorem qej_:PrimOK Tryz.prog 118 clonePr_P:=by
 intro w0 m0 args rows K R m q w us C hv hT
 obtain ⟨l,rfl,rfl,hl,hK⟩:=hT
 refine qip_ qd0_ w0 m0 _ _ K R m q w us C hv ⟨l,rfl,rfl,hl,.inl hK,fun h=>.inr ⟨rfl,5,?_⟩⟩
 subst h
 exact hK
end Gv
namespace Gv
variable [Glob] [Laid]
theorem qnl_:callable Tryz.prog 115=true:=by kernel_rfl
def listsX_P:PSpec:=fun args rows K=>∃ (l:List Bs),args=[.sl blV l]∧rows=[]∧(l.length≤1000000000∧∀ b∈l,b.length≤1000000000)∧K (.own 0) [.row 1 (l.map blV)]
noncomputable def listsX_lib:List (Nat × Spec):=[(66,cloneB_S)]
noncomputable def listsX_fns:List (Nat × FnI):=[(116,{fn:=Tryz.f116,hooks:=[],draws:=[]})]
noncomputable def listsX_prims:List (Nat × PSpec):=[]
theorem qrk_:EnvOK ⟨Tryz.prog,tys,listsX_lib,listsX_fns,listsX_prims,[]⟩:=qf_ mixed0 tys0 (.cons zi_ ze_ .nil) (.cons (by kernel_rfl) ⟨Tryz.func116,by kernel_rfl,by kernel_rfl⟩ .nil) .nil rfl
theorem qgb_:PrimOK Tryz.prog 115 listsX_P:=by
 refine q3_ qrk_ 6 qnl_ (fi:={fn:=Tryz.f115,hooks:=[2],draws:=[]}) ⟨Tryz.func115,by kernel_rfl,by kernel_rfl⟩ ?_
 rintro args rows K ⟨l,rfl,rfl,⟨hl0,hfb⟩,hK⟩
 conv=>whnf
 refine qd_ [] (σ:=Unit) (fun _=>[(0,.own 0)]) (fun _=>[.row 1 (l.map blV)]) (fun _=>True) ?_
 conv=>whnf
 refine ⟨?_,fun _ _=>?_⟩
 ·repeat' first|(refine fun (b:Bool) hb=>?_;cases b<;>first|exact absurd hb (by decide)|exact nfl hb|exact nfr hb|skip)|refine And.intro (a:=_≤140737488355328) ?_ ?_|refine ⟨(fun _=>rfl),?_⟩|fail
  ·show (0+(l.map blV).length)*24≤140737488355328
   rw [List.length_map]
   omega
  ·exact ⟨(),(by (refine qa_ ?_;refine Sel4.mk rfl rfl ?_ ?_<;>(repeat' first|exact True.intro|exact rfl|exact .inl rfl|exact .inr rfl|refine And.intro ?_ ?_|fail))),trivial⟩
  ·have h:true=true→l=[]:=by assumption
   rw [h rfl]
   exact ⟨(),(by (refine qa_ ?_;refine Sel4.mk rfl rfl ?_ ?_<;>(repeat' first|exact True.intro|exact rfl|exact .inl rfl|exact .inr rfl|refine And.intro ?_ ?_|fail))),trivial⟩
 repeat' first|(refine fun (hl:_≤MAXL)=>?_)|fail
 conv=>whnf
 refine qb_ [0,7,8] (σ:=Nat) (fun i=>[(9,.int .i64 i)]) (fun i=>[.row 1 (l.map blV)]) (fun i=>i≤l.length) (fun i=>l.length-i) 0 ?_
 conv=>whnf
 refine ⟨(by (refine qa_ ?_;refine Sel4.mk rfl rfl ?_ ?_<;>(repeat' first|exact True.intro|exact rfl|exact .inl rfl|exact .inr rfl|refine And.intro ?_ ?_|fail))),Nat.zero_le _,fun i hi=>?_⟩
 repeat' first|(refine fun (b:Bool) hb=>?_;cases b<;>first|exact absurd hb (by decide)|exact nfl hb|exact nfr hb|skip)|refine ⟨rfl,?_⟩|fail
 ·conv=>whnf
  exact hK
 have hlt:i<l.length:=by
  have h:=of_decide_eq_true (by assumption:decide ((i:Int)<((l.map blV).length:Int))=true)
  rw [List.length_map] at h
  omega
 have hg:(l.map blV)[i]?=some (blV l[i]):=by rw [List.getElem?_map,List.getElem?_eq_getElem hlt];rfl
 have hlm:i<(l.map blV).length:=by rw [List.length_map];exact hlt
 refine ⟨i,rfl,hlm,?_⟩
 conv=>whnf
 refine ⟨_,hg,?_⟩
 repeat' first|refine ⟨_,rfl,?_,rfl,?_⟩|fail
 ·exact hfb _ (List.getElem_mem hlt)
 refine ⟨i,rfl,hlm,?_⟩
 conv=>whnf
 refine ⟨hlm,?_⟩
 repeat' first|refine And.intro (a:=I64 _) ?_ ?_|fail
 ·have hl1:(l.map blV).length≤MAXL:=by assumption
  rw [List.length_map] at hl1
  unfold MAXL at hl1;unfold I64;omega
 refine ⟨i+1,?_,hlt,by omega⟩
 (refine qa_ ?_;refine Sel4.mk rfl rfl ?_ ?_<;>(repeat' first|exact True.intro|exact rfl|exact .inl rfl|exact .inr rfl|refine And.intro ?_ ?_|fail))
 have e:(l.map blV).set i (blV l[i])=l.map blV:=by
  have:(l.map blV)[i]'hlm=blV l[i]:=by simp
  rw [←this,List.set_getElem_self]
 show Row.row 1 (l.map blV)=Row.row 1 ((l.map blV).set i (blV l[i]))
 rw [e]
end Gv
namespace Gv
variable [Glob] [Laid]
structure copyZ (m:MachS):Prop where
 g:m.g.length≤1000∧∀ n∈m.g,n.ins.length≤1000000000
 f:m.f.length≤1000∧∀ f∈m.f,f.b.length≤1000000000
 s:m.sunk.length≤1000000000
 q:m.pipes.length≤1000000000∧∀ p∈m.pipes,p.b.length≤1000000000
 p:m.p.length≤1000000000
 go:∀ p∈m.p,(p.got.length≤1000000000∧∀ b∈p.got,b.length≤1000000000)∧(p.out.length≤1000000000∧∀ b∈p.out,b.length≤1000000000)
theorem qq2_:callable Tryz.prog 54=true:=by kernel_rfl
def copyX_P:PSpec:=fun args rows K=>∃ (m:MachS),args=[machV m]∧rows=[]∧copyZ m∧∀ Q ex,K (.agg [.sl nodeV m.g,.sl fileV m.f,.own 0,.own 1,.sl byteV m.sunk]) ([.row 4 (m.pipes.map pipeV),.row 5 (procEls Q m.p),.pack Q (subsOf m.p)]++ex)
noncomputable def copyX_lib:List (Nat × Spec):=[(63,copiedX_S),(64,copyF_S),(66,cloneB_S)]
noncomputable def copyX_fns:List (Nat × FnI):=[]
noncomputable def copyX_prims:List (Nat × PSpec):=[(117,clonePi_P),(118,clonePr_P),(115,listsX_P)]
theorem qr9_:EnvOK ⟨Tryz.prog,tys,copyX_lib,copyX_fns,copyX_prims,[]⟩:=qf_ mixed0 tys0 (.cons qcf_ qb3_ (.cons qio_ qhu_ (.cons zi_ ze_ .nil))) .nil (.cons qed_ (.cons qej_ (.cons qgb_ .nil))) rfl
theorem qj9_:PrimOK Tryz.prog 54 copyX_P:=by
 refine q3_ qr9_ 6 qq2_ (fi:={fn:=Tryz.f54,hooks:=[4,12,13],draws:=[(2,[0,1,3,0,8,31,0,64,255,223,1023,2047,4095,8191,16383]),(3,[0,1,3,0,8,31,31,127,255,511]),(7,[0,1,0,0,8,24,63,127,255]),(12,[0,1,0,0,8,0,0,0,128,448,0,0,2048,8128,16327,32711,65479,131071,262143,524287])]}) ⟨Tryz.func54,by kernel_rfl,by kernel_rfl⟩ ?_
 rintro args rows K ⟨m,rfl,rfl,hz,hK⟩
 conv=>whnf
 repeat' first|exact True.intro|refine ⟨_,⟨rfl,rfl⟩,?_⟩|refine And.intro (a:=chkPast _ _ _ _ _ _ _ _) ?_ ?_|fail
 conv=>whnf
 apply Exists.intro
 apply And.intro
 ·refine ⟨m.g,rfl,hz.g,?_⟩
  exact ⟨rfl,rfl⟩
 conv=>whnf
 repeat' first|exact True.intro|refine ⟨_,⟨rfl,rfl⟩,?_⟩|refine And.intro (a:=chkPast _ _ _ _ _ _ _ _) ?_ ?_|fail
 conv=>whnf
 apply Exists.intro
 apply And.intro
 ·refine ⟨m.f,rfl,hz.f,?_⟩
  exact ⟨rfl,rfl⟩
 conv=>whnf
 repeat' first|exact True.intro|refine ⟨_,⟨rfl,rfl⟩,?_⟩|refine And.intro (a:=chkPast _ _ _ _ _ _ _ _) ?_ ?_|fail
 conv=>whnf
 apply Exists.intro
 apply And.intro
 ·refine ⟨m.sunk,rfl,hz.s,?_⟩
  exact ⟨rfl,rfl⟩
 conv=>whnf
 repeat' first|exact True.intro|refine ⟨_,⟨rfl,rfl⟩,?_⟩|refine ⟨_,_,⟨rfl,rfl⟩,?_⟩|refine And.intro (a:=chkPend _ _ _ _ _ _) ?_ ?_|fail
 conv=>whnf
 refine qd_ [3] (σ:=Unit) (fun _=>[(1,.ptr 3 0 0),(2,.ptr 4 0 0)]) (fun _=>[.row 4 (m.pipes.map pipeV),.row 5 (m.p.map procV),.dead,.box [.sl nodeV m.g,.sl fileV m.f,.own 0,.own 1,.sl byteV m.sunk],.box [.nil,.nil,.nil,.nil,.nil]]) (fun _=>True) ?_
 conv=>whnf
 refine ⟨?_,fun _ _=>?_⟩
 ·conv=>whnf
  repeat' first|exact True.intro|refine ⟨_,⟨rfl,rfl⟩,?_⟩|refine And.intro (a:=chkPast _ _ _ _ _ _ _ _) ?_ ?_|fail
  conv=>whnf
  apply Exists.intro
  apply Exists.intro
  apply And.intro
  ·refine ⟨m.pipes,rfl,rfl,hz.q.1,?_⟩
   exact ⟨rfl,rfl⟩
  conv=>whnf
  repeat' first|exact True.intro|refine ⟨_,⟨rfl,rfl⟩,?_⟩|refine And.intro (a:=chkPend _ _ _ _ _ _) ?_ ?_|refine And.intro (a:=chkPast _ _ _ _ _ _ _ _) ?_ ?_|refine ⟨⟨rfl,rfl⟩,?_⟩|fail
  conv=>whnf
  apply Exists.intro
  apply Exists.intro
  apply And.intro
  ·refine ⟨m.p,rfl,rfl,hz.p,?_⟩
   exact ⟨rfl,rfl⟩
  conv=>whnf
  repeat' first|exact True.intro|refine ⟨_,⟨rfl,rfl⟩,?_⟩|refine ⟨_,_,⟨rfl,rfl⟩,?_⟩|refine And.intro (a:=chkPend _ _ _ _ _ _) ?_ ?_|fail
  conv=>whnf
  exact ⟨(),(by (refine qc_ [some 3,some 5,some 2,some 0,some 1] rfl rfl ?_ ?_<;>(repeat' first|exact True.intro|exact rfl|exact .inl rfl|exact .inr rfl|refine And.intro ?_ ?_|fail))),trivial⟩
 conv=>whnf
 repeat' first|(refine fun (hl:_≤MAXL)=>?_)|fail
 conv=>whnf
 refine qb_ [1,2,3,29,30] (σ:=Nat) (fun i=>[(31,.int .i64 i)]) (fun i=>[.row 4 (m.pipes.map pipeV),.row 5 (m.p.map procV),.dead,.box [.sl nodeV m.g,.sl fileV m.f,.own 0,.own 1,.sl byteV m.sunk],.box [.nil,.nil,.nil,.nil,.nil]]) (fun i=>i≤m.pipes.length) (fun i=>m.pipes.length-i) 0 ?_
 conv=>whnf
 refine ⟨(by (refine qc_ [some 0,some 1,some 2,some 3,some 4] rfl rfl ?_ ?_<;>(repeat' first|exact True.intro|exact rfl|exact .inl rfl|exact .inr rfl|refine And.intro ?_ ?_|fail))),Nat.zero_le _,fun i hi=>?_⟩
 repeat' first|(refine fun (b:Bool) hb=>?_;cases b<;>first|exact absurd hb (by decide)|exact nfl hb|exact nfr hb|skip)|(refine fun (hl:_≤MAXL)=>?_)|refine ⟨rfl,?_⟩|fail
 rotate_left
 ·have hlt:i<m.pipes.length := by
   have h:=of_decide_eq_true (by assumption:decide ((i:Int)<((m.pipes.map pipeV).length:Int))=true)
   rw [List.length_map] at h
   omega
  have hg:(m.pipes.map pipeV)[i]?=some (pipeV m.pipes[i]):=by rw [List.getElem?_map,List.getElem?_eq_getElem hlt];rfl
  have hlm:i<(m.pipes.map pipeV).length:=by rw [List.length_map];exact hlt
  refine ⟨i,rfl,hlm,?_⟩
  conv=>whnf
  refine ⟨_,hg,?_⟩
  repeat' first|exact True.intro|refine ⟨_,⟨rfl,rfl⟩,?_⟩|refine And.intro (a:=chkPast _ _ _ _ _ _ _ _) ?_ ?_|fail
  conv=>whnf
  apply Exists.intro
  apply And.intro
  ·refine ⟨m.pipes[i].b,rfl,hz.q.2 _ (List.getElem_mem hlt),?_⟩
   exact ⟨rfl,rfl⟩
  conv=>whnf
  apply Exists.intro
  apply And.intro
  ·refine ⟨rfl,i,rfl,hlm,?_⟩
   exact ⟨rfl,rfl⟩
  conv=>whnf
  refine ⟨trivial,?_⟩
  conv=>whnf
  repeat' first|refine ⟨_,⟨rfl,rfl⟩,?_⟩|fail
  apply Exists.intro
  apply Exists.intro
  apply And.intro
  ·conv=>whnf
   refine ⟨_,hg,?_⟩
   exact ⟨rfl,rfl⟩
  conv=>whnf
  repeat' first|exact True.intro|refine And.intro (a:=I64 _) ?_ ?_|refine And.intro (a:=chkPend _ _ _ _ _ _) ?_ ?_|fail
  ·have hM:(m.pipes.map pipeV).length≤MAXL:=by assumption
   rw [List.length_map] at hM
   unfold I64;unfold MAXL at hM;omega
  refine ⟨i+1,?_,hlt,by omega⟩
  refine qc_ [some 0,some 1,some 2,some 3,some 4] rfl rfl ?_ ?_<;>(repeat' first|exact True.intro|exact rfl|exact .inl rfl|exact .inr rfl|refine And.intro ?_ ?_|fail)
  have e:(m.pipes.map pipeV).set i (pipeV m.pipes[i])=m.pipes.map pipeV:=by
   have:(m.pipes.map pipeV)[i]'hlm=pipeV m.pipes[i]:=by simp
   rw [←this,List.set_getElem_self]
  show Row.row 4 (m.pipes.map pipeV)=Row.row 4 ((m.pipes.map pipeV).set i (pipeV m.pipes[i]))
  rw [e]
 have e0:m.p.map procV=copEls noLoc m.p 0:=by simp [copEls,procEls]
 rw [e0]
 conv=>whnf
 refine qb_ [1,2,3,46,47] (σ:=Nat × Loc) (fun s=>[(48,.int .i64 s.1)]) (fun s=>[.row 4 (m.pipes.map pipeV),.row 5 (copEls s.2 m.p s.1),.pack s.2 (subsOf (m.p.take s.1)),.box [.sl nodeV m.g,.sl fileV m.f,.own 0,.own 1,.sl byteV m.sunk],.box [.nil,.nil,.nil,.nil,.nil]]) (fun s=>s.1≤m.p.length) (fun s=>m.p.length-s.1) (0,noLoc) ?_
 conv=>whnf
 refine ⟨(qid_ 2 noLoc rfl).trans (by (refine qc_ [some 0,some 1,some 2,some 3,some 4] rfl rfl ?_ ?_<;>(repeat' first|exact True.intro|exact rfl|exact .inl rfl|exact .inr rfl|refine And.intro ?_ ?_|fail))),Nat.zero_le _,fun s hs=>?_⟩
 obtain ⟨k,Q⟩:=s
 dsimp only at hs
 have hcl:=qce_ (Q:=Q) hs
 have hcn:(copEls noLoc m.p 0).length=m.p.length:=qce_ (Nat.zero_le _)
 conv=>whnf
 repeat' first|(refine fun (b:Bool) hb=>?_;cases b<;>first|exact absurd hb (by decide)|exact nfl hb|exact nfr hb|skip)|fail
 ·have hkl:k=m.p.length := by
   have h:=of_decide_eq_false (by assumption:decide ((k:Int)<((copEls noLoc m.p 0).length:Int))=false)
   rw [hcn] at h
   omega
  subst hkl
  have hfin:=hK Q [.box [.sl nodeV m.g,.sl fileV m.f,.own 0,.own 1,.sl byteV m.sunk],.box [.sl nodeV m.g,.sl fileV m.f,.own 0,.own 1,.sl byteV m.sunk]]
  have e1:copEls Q m.p m.p.length=procEls Q m.p:=by simp [copEls]
  have e2:subsOf (m.p.take m.p.length)=subsOf m.p:=by rw [List.take_length]
  rw [←e1,←e2] at hfin
  conv=>whnf
  exact hfin
 have hk:k<m.p.length:=by
  have h:=of_decide_eq_true (by assumption:decide ((k:Int)<((copEls noLoc m.p 0).length:Int))=true)
  rw [hcn] at h
  omega
 have hat:=qmw_ (Q:=Q) hk
 conv=>whnf
 refine qc8_ ?_
 conv=>whnf
 refine qd_ [1,2,3,46,47,48] (σ:=Unit) (fun _=>[(6,.int .i64 k),(7,.ptr 5 0 0)]) (fun _=>[.row 4 (m.pipes.map pipeV),.rowq 5 (copEls Q m.p k),.pack Q (subsOf (m.p.take k)),.box [.sl nodeV m.g,.sl fileV m.f,.own 0,.own 1,.sl byteV m.sunk],.box [.nil,.nil,.nil,.nil,.nil],.box (procV m.p[k]).cells]) (fun _=>True) ?_
 conv=>whnf
 refine ⟨?_,fun _ _=>?_⟩
 ·conv=>whnf
  refine ⟨rfl,k,rfl,by rw [hcl];exact hk,?_⟩
  conv=>whnf
  refine ⟨_,hat,?_⟩
  skip
  exact ⟨(),(by (refine qc_ [some 0,some 1,some 2,some 3,some 4,some 5] rfl rfl ?_ ?_<;>(repeat' first|exact True.intro|exact rfl|exact .inl rfl|exact .inr rfl|refine And.intro ?_ ?_|fail))),trivial⟩
 conv=>whnf
 repeat' first|exact True.intro|refine ⟨_,⟨rfl,rfl⟩,?_⟩|refine And.intro (a:=chkPast _ _ _ _ _ _ _ _) ?_ ?_|fail
 conv=>whnf
 apply Exists.intro
 apply Exists.intro
 apply And.intro
 ·conv=>whnf
  refine ⟨m.p[k].got,rfl,rfl,(hz.go _ (List.getElem_mem hk)).1,?_⟩
  exact ⟨rfl,rfl⟩
 conv=>whnf
 repeat' first|exact True.intro|refine ⟨_,⟨rfl,rfl⟩,?_⟩|refine And.intro (a:=chkPend _ _ _ _ _ _) ?_ ?_|refine And.intro (a:=chkPast _ _ _ _ _ _ _ _) ?_ ?_|refine ⟨⟨rfl,rfl⟩,?_⟩|fail
 conv=>whnf
 apply Exists.intro
 apply Exists.intro
 apply And.intro
 ·conv=>whnf
  refine ⟨m.p[k].out,rfl,rfl,(hz.go _ (List.getElem_mem hk)).2,?_⟩
  exact ⟨rfl,rfl⟩
 conv=>whnf
 repeat' first|exact True.intro|refine And.intro (a:=chkPend _ _ _ _ _ _) ?_ ?_|refine ⟨⟨rfl,rfl⟩,?_⟩|fail
 conv=>whnf
 apply Exists.intro
 apply And.intro
 ·refine ⟨rfl,k,rfl,by rw [hcl];exact hk,?_⟩
  exact ⟨rfl,rfl⟩
 conv=>whnf
 refine ⟨trivial,?_⟩
 conv=>whnf
 repeat' first|refine ⟨_,⟨rfl,rfl⟩,?_⟩|fail
 apply Exists.intro
 apply Exists.intro
 apply And.intro
 ·conv=>whnf
  refine ⟨_,hat,?_⟩
  exact ⟨rfl,rfl⟩
 conv=>whnf
 repeat' first|exact True.intro|refine And.intro (a:=chkPend _ _ _ _ _ _) ?_ ?_|refine ⟨⟨rfl,rfl⟩,?_⟩|fail
 conv=>whnf
 apply Exists.intro
 apply And.intro
 ·refine ⟨rfl,k,rfl,by rw [List.length_set,hcl];exact hk,?_⟩
  exact ⟨rfl,rfl⟩
 conv=>whnf
 refine ⟨trivial,?_⟩
 conv=>whnf
 repeat' first|refine ⟨_,⟨rfl,rfl⟩,?_⟩|fail
 apply Exists.intro
 apply Exists.intro
 apply And.intro
 ·conv=>whnf
  refine ⟨_,List.getElem?_set_self (by rw [hcl];exact hk),?_⟩
  exact ⟨rfl,rfl⟩
 conv=>whnf
 repeat' first|exact True.intro|refine And.intro (a:=chkPend _ _ _ _ _ _) ?_ ?_|fail
 conv=>whnf
 have hel:∀ x y:V,((copEls Q m.p k).set k x).set k y=(copEls Q m.p k).set k y:=fun x y=>List.set_set ..
 rw [hel]
 refine qjl_ 1 2 6 7 k rfl rfl rfl rfl (by decide) (List.getElem?_set_self (by rw [hcl];exact hk)) rfl (by rw [wf_,List.length_take];omega) (fun j x hj hx=>?_) fun Q' hQ'=>?_
 ·rw [List.getElem?_set_ne (fun h=>hj h.symm)] at hx
  exact qf7_ x (List.mem_of_getElem? hx)
 rw [List.set_set]
 conv=>whnf
 repeat' first|refine And.intro (a:=I64 _) ?_ ?_|fail
 ·have hM:(m.p.map procV).length≤MAXL:=by rw [e0];assumption
  rw [List.length_map] at hM
  unfold I64;unfold MAXL at hM;omega
 refine ⟨(k+1,Q'),?_,hk,by show m.p.length-(k+1)<m.p.length-k;omega⟩
 have hst:=qgo_ hk hQ'
 have hsb:=qe4_ hk
 show Wk _ _ _ _ [.row 4 (m.pipes.map pipeV),.row 5 (copEls Q' m.p (k+1)),.pack Q' (subsOf (m.p.take (k+1))),.box [.sl nodeV m.g,.sl fileV m.f,.own 0,.own 1,.sl byteV m.sunk],.box [.nil,.nil,.nil,.nil,.nil]]
 rw [←hst,←hsb]
 exact (by (refine qc_ [some 0,some 1,some 2,some 3,some 4] rfl rfl ?_ ?_<;>(repeat' first|exact True.intro|exact rfl|exact .inl rfl|exact .inr rfl|refine And.intro ?_ ?_|fail)))
end Gv
namespace Gv
variable [Glob] [Laid] [Nums] [Errs]
structure FocM (m:MachS) (i:Nat):Prop where
 g:checkG m.g=0
 f:checkFiles m.f=0
 np:m.p.length=m.g.length
 nq:m.pipes.length=(allIns m.g).length
 lt:i<m.g.length
 got:(pr m i).got.length=nI m.g i
 out:(pr m i).out.length=nO m.g i
 room:∀ p∈m.pipes,p.b.length≤400000000
 big:∀ b∈(pr m i).got++(pr m i).out,b.length≤400000000
theorem FocM.foc {m:MachS} {i:Nat} (h:FocM m i) {Q:Loc}:FocOK m i (procEls Q m.p):=⟨h.g,h.f,h.np,h.nq,h.lt,by rw [qr_];exact h.np,h.got,h.out,h.room,z6_,h.big⟩
def Steps (I:MachS→Prop):Prop:=∀ m,I m→∀ i,i<m.p.length→FocM m i∧stepZ m i∧I (stepM m i).1
theorem qa2_:∀ {l:List PipeS},pipesBad l=0→∀ p∈l,checkPipe p=0
 | a::r,h,p,hp=>by
  unfold pipesBad at h
  split at h
  ·rename_i h1;exact absurd h h1
  ·rename_i h1
   rcases List.mem_cons.1 hp with rfl|hp
   ·exact Decidable.not_not.1 h1
   ·exact qa2_ h p hp
theorem w8_:∀ {g:List Gp.Node} {l:List ProcS},procsBad g l=0→∀ i (h1:i<g.length) (h2:i<l.length),checkProc g[i] l[i]=0
 | n::r,a::s,h,i,h1,h2=>by
  unfold procsBad at h
  split at h
  ·rename_i h3;exact absurd h h3
  ·rename_i h3
   cases i with
   | zero=>exact Decidable.not_not.1 h3
   | succ i=>exact w8_ h i (by simpa using h1) (by simpa using h2)
structure Right (m:MachS):Prop where
 g:checkG m.g=0
 f:checkFiles m.f=0
 np:m.p.length=m.g.length
 nq:m.pipes.length=(allIns m.g).length
 q:∀ p∈m.pipes,checkPipe p=0
 p:∀ i (h1:i<m.g.length) (h2:i<m.p.length),checkProc m.g[i] m.p[i]=0
 s:m.sunk.length≤40000
theorem w0_ {m:MachS} (h:checkMach m=0):Right m:=by
 unfold checkMach at h
 split at h
 ·rename_i h1;exact absurd h h1
 rename_i h1
 split at h
 ·rename_i h2;exact absurd h h2
 rename_i h2
 split at h
 ·cases h
 rename_i h3
 split at h
 ·rename_i h4;exact absurd h h4
 rename_i h4
 split at h
 ·rename_i h5;exact absurd h h5
 rename_i h5
 split at h
 ·cases h
 rename_i h6
 exact ⟨Decidable.not_not.1 h1,Decidable.not_not.1 h2,by omega,by omega,qa2_ (Decidable.not_not.1 h4),w8_ (Decidable.not_not.1 h5),by omega⟩
theorem qfv_ {n:Gp.Node} {p:ProcS} (h:checkProc n p=0):p.got.length=n.ins.length∧(p.out.length:Int)=outsN n∧0≤p.pos∧p.pos≤(n.ins.length:Int)∧(p.read=true∨n.ins.length=0∨p.pos<(n.ins.length:Int))∧∀ b∈p.got++p.out,b.length≤40000:=by
 unfold checkProc at h
 split at h
 ·cases h
 rename_i h1
 split at h
 ·cases h
 rename_i h2
 split at h
 ·cases h
 rename_i h3
 split at h
 ·cases h
 rename_i h4
 refine ⟨by omega,by omega,by omega,by omega,?_,fun b hb=>?_⟩
 ·cases hr:p.read with
  | true=>exact .inl rfl
  | false =>
   right
   by_cases h0:n.ins.length=0
   ·exact .inl h0
   ·right
    have:¬ p.pos=(n.ins.length:Int):=fun e=>h3 ⟨hr,e,by omega⟩
    omega
 ·rcases Nat.lt_or_ge 40000 b.length with h5|h5
  ·exact absurd (List.any_eq_true.2 ⟨b,hb,decide_eq_true h5⟩) h4
  ·exact h5
theorem qdu_:∀ (l:List Bs) (n:Nat),(∀ b∈l,b.length≤n)→l.flatten.length≤l.length*n
 | [],n,_=>by simp
 | a::r,n,h=>by
  have h1:=h a (by simp)
  have h2:=qdu_ r n fun b hb=>h b (by simp [hb])
  rw [List.flatten_cons,List.length_append,List.length_cons,Nat.succ_mul]
  omega
theorem pr_at {m:MachS} {i:Nat} (h:i<m.p.length):pr m i=m.p[i]:=by
 unfold pr
 rw [List.getD_eq_getElem?_getD,List.getElem?_eq_getElem h];rfl
theorem qfq_ {m:MachS} (R:Right m) {i:Nat} (hi:i<m.p.length):FocM m i∧stepZ m i:=by
 have hg:i<m.g.length:=by rw [←R.np];exact hi
 have hp:=qfv_ (R.p i hg hi)
 obtain ⟨p1,p2,p3,p4,p5,p6⟩:=hp
 have hpr:=pr_at hi
 have hnd:ndG m.g i=m.g[i]:=qt_ hg
 have hni:nI m.g i=m.g[i].ins.length:=by unfold nI;rw [hnd]
 have hi5:=z7_ ((gf_of R.g).node i hg)
 rw [hnd] at hi5
 have hgl:(pr m i).got.flatten.length≤5*40000:=by
  have h1:=qdu_ (pr m i).got 40000 fun b hb=>p6 b (by rw [←hpr];exact List.mem_append_left _ hb)
  have h2:(pr m i).got.length≤5:=by rw [hpr,p1];exact hi5
  exact Nat.le_trans h1 (Nat.mul_le_mul_right 40000 h2)
 have hgl:(pr m i).got.flatten.length≤200000:=hgl
 refine ⟨⟨R.g,R.f,R.np,R.nq,hg,by rw [hpr,hni];exact p1,?_,fun p hp=>?_,fun b hb=>?_⟩,fun p hp=>R.q p hp,by rw [hpr];exact p3,by rw [hpr,hni];exact p5,by omega,by have:=R.s;omega⟩
 ·rw [hpr]
  unfold nO
  rw [hnd]
  omega
 ·have:=q9_ ((qz_ p).trans (R.q p hp))
  omega
 ·rw [hpr] at hb
  have:=p6 b hb
  omega
theorem qbs_ {m:MachS} (R:Right m):copyZ m:=by
 have hg:=(gf_of R.g).len.2
 have hf:=q8_ R.f
 refine ⟨⟨by omega,fun n hn=>?_⟩,⟨by omega,fun f h=>?_⟩,by have:=R.s;omega,⟨by rw [R.nq];exact qq_ R.g,fun p h=>?_⟩,by rw [R.np];omega,fun p hp=>?_⟩
 ·obtain ⟨i,hi,rfl⟩:=List.getElem_of_mem hn
  have:=z7_ ((gf_of R.g).node i hi)
  rw [qt_ hi] at this
  omega
 ·have:=(hf.2 f h).2
  omega
 ·have:=q9_ ((qz_ p).trans (R.q p h))
  omega
 ·obtain ⟨i,hi,rfl⟩:=List.getElem_of_mem hp
  have hgi:i<m.g.length:=by rw [←R.np];exact hi
  obtain ⟨p1,p2,p3,p4,p5,p6⟩:=qfv_ (R.p i hgi hi)
  have hcn:=(gf_of R.g).node i hgi
  have hi5:=z7_ hcn
  have ho5:=qy_ hcn
  rw [qt_ hgi] at hi5 ho5
  refine ⟨⟨by omega,fun b hb=>?_⟩,⟨by omega,fun b hb=>?_⟩⟩
  ·have:=p6 b (List.mem_append_left _ hb);omega
  ·have:=p6 b (List.mem_append_right _ hb);omega
theorem qnh_ (m:MachS) (i:Nat) (hi:i<m.p.length):(stepM m i).1.p.length=m.p.length:=by rw [(qbl_ hi).p,List.length_set]
end Gv
namespace Gv
variable [Glob] [Laid] [Nums] [Errs]
def newP (g:List Gp.Node) (f:List FileS) (rm:Int):MachS × Int:=if checkG g≠0 then (zM,checkG g) else if checkFiles f≠0 then (zM,checkFiles f) else if rm<1∨1000<rm then (zM,3) else (freshM g f rm,0)
theorem qd5_ (c:Nat):LeL (List.replicate c V.nil) ((List.replicate c ([]:Bs)).map blV):=by
 induction c with
 | zero=>exact LeL.refl _
 | succ c ih =>
  rw [List.replicate_succ,List.replicate_succ,List.map_cons]
  refine LeL.cons ⟨rfl,fun j v v' h h'=>?_⟩ ih
  match j,h,h' with
  | 0,h,h' =>
   simp [V.cells] at h
   subst h
   have:blV []=v':=by simpa [V.cells,blV] using h'
   subst this
   exact V.Le.nil _
  | n+1,h,_=>simp [V.cells] at h
theorem qmj_:callable Tryz.prog 19=true:=by kernel_rfl
def newX_S:Spec:=fun args K=>∃ (g:List Gp.Node) (f:List FileS) (rm:Int),args=[.agg [.sl nodeV g],.sl fileV f,.int .i64 rm]∧K (.tup [machV (newP g f rm).1,.int .i64 (newP g f rm).2])
noncomputable def newX_lib:List (Nat × Spec):=[(62,checkG_S),(32,cfiles_S),(63,copiedX_S),(64,copyF_S),(65,outs_S)]
noncomputable def newX_fns:List (Nat × FnI):=[]
noncomputable def newX_prims:List (Nat × PSpec):=[]
theorem qug_:EnvOK ⟨Tryz.prog,tys,newX_lib,newX_fns,newX_prims,[]⟩:=qf_ mixed0 tys0 (.cons qeo_ qee_ (.cons qfp_ qfc_ (.cons qcf_ qb3_ (.cons qio_ qhu_ (.cons qfy_ qg7_ .nil))))) .nil .nil rfl
theorem qmy_:Pure Tryz.prog 19 newX_S:=by
 refine qe_ qug_ 6 (fi:={fn:=Tryz.f19,hooks:=[4,7,9,19],draws:=[(21,[0,1,0,4,12,28,0,64,192,508,1020,2047,4095,8191])]}) ⟨Tryz.func19,by kernel_rfl,by kernel_rfl⟩ ?_
 rintro _ K ⟨g,f,rm,rfl,hK⟩
 replace hK:∀ r,r=.tup [machV (newP g f rm).1,.int .i64 (newP g f rm).2]→K r:=fun r h=>h ▸ hK
 conv=>whnf
 refine qd_ [1,2,3,6] (σ:=Unit) (fun _=>[]) (fun _=>[.box [.sl nodeV g],.box [.nil,.nil,.nil,.nil,.nil]]) (fun _=>checkG g=0) ?_
 conv=>whnf
 refine ⟨?_,fun _ h4=>?_⟩
 ·conv=>whnf
  refine ⟨g,rfl,?_⟩
  repeat' first|(refine fun (b:Bool) hb=>?_;cases b<;>first|exact absurd hb (by decide)|exact nfl hb|exact nfr hb|skip)|fail
  ·exact ⟨(),(by (refine qa_ ?_;refine Sel4.mk rfl rfl ?_ ?_<;>(repeat' first|exact True.intro|exact rfl|exact .inl rfl|exact .inr rfl|refine And.intro ?_ ?_|fail))),by simpa using ‹(!decide (checkG g=0))=false›⟩
  ·have h0:¬ checkG g=0:=by simpa using ‹(!decide (checkG g=0))=true›
   conv=>whnf
   refine ⟨Gp.Node,nodeV,?_⟩
   refine ⟨FileS,fileV,?_⟩
   refine ⟨PipeS,pipeV,?_⟩
   refine ⟨ProcS,procV,?_⟩
   refine ⟨UInt8,byteV,?_⟩
   refine hK _ ?_
   unfold newP
   rw [if_pos h0]
   rfl
 conv=>whnf
 refine qd_ [1,2,3,6] (σ:=Unit) (fun _=>[]) (fun _=>[.box [.sl nodeV g],.box [.nil,.nil,.nil,.nil,.nil]]) (fun _=>checkFiles f=0) ?_
 conv=>whnf
 refine ⟨?_,fun _ h7=>?_⟩
 ·conv=>whnf
  refine ⟨f,rfl,?_⟩
  repeat' first|(refine fun (b:Bool) hb=>?_;cases b<;>first|exact absurd hb (by decide)|exact nfl hb|exact nfr hb|skip)|fail
  ·exact ⟨(),(by (refine qa_ ?_;refine Sel4.mk rfl rfl ?_ ?_<;>(repeat' first|exact True.intro|exact rfl|exact .inl rfl|exact .inr rfl|refine And.intro ?_ ?_|fail))),by simpa using ‹(!decide (checkFiles f=0))=false›⟩
  ·have h0:¬ checkFiles f=0:=by simpa using ‹(!decide (checkFiles f=0))=true›
   conv=>whnf
   refine ⟨Gp.Node,nodeV,?_⟩
   refine ⟨FileS,fileV,?_⟩
   refine ⟨PipeS,pipeV,?_⟩
   refine ⟨ProcS,procV,?_⟩
   refine ⟨UInt8,byteV,?_⟩
   refine hK _ ?_
   unfold newP
   rw [if_neg (by rw [h4];decide),if_pos h0]
   rfl
 conv=>whnf
 refine qd_ [1,2,3,6] (σ:=Unit) (fun _=>[]) (fun _=>[.box [.sl nodeV g],.box [.nil,.nil,.nil,.nil,.nil]]) (fun _=>¬ (rm<1∨1000<rm)) ?_
 conv=>whnf
 refine ⟨?_,fun _ h9=>?_⟩
 ·conv=>whnf
  repeat' first|(refine fun (b:Bool) hb=>?_;cases b<;>first|exact absurd hb (by decide)|exact nfl hb|exact nfr hb|skip)|fail
  all_goals (try (conv=>whnf))
  all_goals (skip)
  all_goals (try (conv=>whnf))
  all_goals (skip)
  ·exact ⟨(),(by (refine qa_ ?_;refine Sel4.mk rfl rfl ?_ ?_<;>(repeat' first|exact True.intro|exact rfl|exact .inl rfl|exact .inr rfl|refine And.intro ?_ ?_|fail))),by grind⟩
  ·have hr:rm<1∨1000<rm:=by grind
   refine ⟨Gp.Node,nodeV,?_⟩
   refine ⟨FileS,fileV,?_⟩
   refine ⟨PipeS,pipeV,?_⟩
   refine ⟨ProcS,procV,?_⟩
   refine ⟨UInt8,byteV,?_⟩
   refine hK _ ?_
   unfold newP
   rw [if_neg (by rw [h4];decide),if_neg (by rw [h7];decide),if_pos hr]
   rfl
  ·have hr:rm<1∨1000<rm:=by grind
   refine ⟨Gp.Node,nodeV,?_⟩
   refine ⟨FileS,fileV,?_⟩
   refine ⟨PipeS,pipeV,?_⟩
   refine ⟨ProcS,procV,?_⟩
   refine ⟨UInt8,byteV,?_⟩
   refine hK _ ?_
   unfold newP
   rw [if_neg (by rw [h4];decide),if_neg (by rw [h7];decide),if_pos hr]
   rfl
 have hgf:=gf_of h4
 have hff:=q8_ h7
 conv=>whnf
 refine ⟨g,rfl,⟨by have:=hgf.len.2;omega,fun n hn=>?_⟩,?_⟩
 ·obtain ⟨i,hi,rfl⟩:=List.getElem_of_mem hn
  have:=z7_ (hgf.node i hi)
  rw [qt_ hi] at this
  omega
 skip
 refine ⟨f,rfl,⟨by omega,fun x hx=>by have:=(hff.2 x hx).2;omega⟩,?_⟩
 have hin:=qq_ h4
 conv=>whnf
 repeat' first|(refine fun (hl:_≤MAXL)=>?_)|fail
 conv=>whnf
 refine qb_ [2,3,6,10,41,42] (σ:=Nat) (fun k=>[(43,.int .i64 k)]) (fun k=>[.box [.sl nodeV g],.box [.nil,.nil,.nil,.nil,.nil],.box [.sl nodeV g,.sl fileV f,.own 3,.own 4,.nil],.row 4 (((allIns (g.take k)).map (freshQ g rm)).map pipeV),.row 5 (((g.take k).map freshP).map procV)]) (fun k=>k≤g.length) (fun k=>g.length-k) 0 ?_
 conv=>whnf
 refine ⟨(by (refine qc_ [some 0,some 1,some 2,none,none] rfl rfl ?_ ?_<;>(repeat' first|exact True.intro|exact rfl|exact .inl rfl|exact .inr rfl|refine And.intro ?_ ?_|fail))),Nat.zero_le _,fun k hk=>?_⟩
 repeat' first|refine ⟨_,_,_,LeL.refl _,?_⟩|(refine fun (b:Bool) hb=>?_;cases b<;>first|exact absurd hb (by decide)|exact nfl hb|exact nfr hb|skip)|(refine fun (hl:_≤MAXL)=>?_)|refine ⟨_,rfl,?_,rfl,?_⟩|fail
 ·have hkl:k=g.length := by
   have h:=of_decide_eq_false (by assumption:decide ((k:Int)<(g.length:Int))=false)
   omega
  subst hkl
  conv=>whnf
  refine ⟨UInt8,byteV,?_⟩
  refine hK _ ?_
  unfold newP
  rw [if_neg (by rw [h4];decide),if_neg (by rw [h7];decide),if_neg h9,List.take_length]
  rfl
 ·have h:=of_decide_eq_true (by assumption:decide ((k:Int)<(g.length:Int))=true)
  omega
 have hk2:k<g.length:=by
  have h:=of_decide_eq_true (by assumption:decide ((k:Int)<(g.length:Int))=true)
  omega
 have hcn:=hgf.node k hk2
 have hi5:=z7_ hcn
 rw [qt_ hk2] at hi5 hcn
 have hsp:allIns (g.take (k+1))=allIns (g.take k)++g[k].ins:=by
  rw [List.take_succ_eq_append_getElem hk2,qp_]
  simp [allIns]
 have hsl:(allIns (g.take (k+1))).length≤(allIns g).length:=by
  conv=>rhs;rw [←List.take_append_drop (k+1) g,qp_,List.length_append]
  omega
 rw [hsp,List.length_append] at hsl
 conv=>whnf
 refine qb_ [2,3,6,10,12,41,42,43,48,49] (σ:=Nat) (fun j=>[(50,.int .i64 j)]) (fun j=>[.box [.sl nodeV g],.box [.nil,.nil,.nil,.nil,.nil],.box [.sl nodeV g,.sl fileV f,.own 3,.own 4,.nil],.row 4 (((allIns (g.take k)++g[k].ins.take j).map (freshQ g rm)).map pipeV),.row 5 (((g.take k).map freshP).map procV),.box (nodeV g[k]).cells]) (fun j=>j≤g[k].ins.length) (fun j=>g[k].ins.length-j) 0 ?_
 conv=>whnf
 refine ⟨?_,Nat.zero_le _,fun j hj=>?_⟩
 ·have e:allIns (g.take k)++g[k].ins.take 0=allIns (g.take k):=by simp
  rw [e]
  exact (by (refine qc_ [some 0,some 1,some 2,some 3,some 4,some 5] rfl rfl ?_ ?_<;>(repeat' first|exact True.intro|exact rfl|exact .inl rfl|exact .inr rfl|refine And.intro ?_ ?_|fail)))
 repeat' first|exact True.intro|(refine fun (b:Bool) hb=>?_;cases b<;>first|exact absurd hb (by decide)|exact nfl hb|exact nfr hb|skip)|refine ⟨_,⟨rfl,rfl⟩,?_⟩|refine ⟨_,(fun _=>⟨rfl,rfl⟩),?_⟩|refine And.intro (a:=chkPast _ _ _ _ _ _ _ _) ?_ ?_|refine ⟨_,rfl,?_,rfl,?_⟩|fail
 ·have hjl:j=g[k].ins.length := by
   have h:=of_decide_eq_false (by assumption:decide ((j:Int)<(g[k].ins.length:Int))=false)
   omega
  subst hjl
  have ho5:=qy_ hcn
  conv=>whnf
  apply Exists.intro
  apply And.intro
  ·refine ⟨rfl,g[k].ins.length,rfl,by show g[k].ins.length*24≤_;omega,Bs,blV,List.replicate g[k].ins.length [],qd5_ _,?_⟩
   exact ⟨rfl,rfl⟩
  conv=>whnf
  repeat' first|exact True.intro|refine ⟨_,⟨rfl,rfl⟩,?_⟩|refine And.intro (a:=chkPast _ _ _ _ _ _ _ _) ?_ ?_|fail
  conv=>whnf
  apply Exists.intro
  apply And.intro
  ·refine ⟨g[k],rfl,?_⟩
   exact ⟨rfl,rfl⟩
  conv=>whnf
  apply Exists.intro
  apply And.intro
  ·refine ⟨rfl,(outsN g[k]).toNat,by omega,by show (outsN g[k]).toNat*24≤_;omega,Bs,blV,List.replicate (outsN g[k]).toNat [],qd5_ _,?_⟩
   exact ⟨rfl,rfl⟩
  conv=>whnf
  repeat' first|refine ⟨_,⟨rfl,rfl⟩,?_⟩|fail
  conv=>whnf
  refine ⟨_,⟨ProcS,procV,[freshP g[k]],LeL.refl _,rfl,rfl⟩,?_⟩
  conv=>whnf
  apply Exists.intro
  apply Exists.intro
  apply And.intro
  ·refine ⟨fun _=>rfl,?_,rfl,rfl⟩
   show ((((g.take k).map freshP).map procV).length+1)*64≤140737488355328
   rw [List.length_map,List.length_map,List.length_take]
   have:=hgf.len.2
   omega
  conv=>whnf
  repeat' first|exact True.intro|refine And.intro (a:=I64 _) ?_ ?_|refine ⟨_,⟨rfl,rfl⟩,?_⟩|refine ⟨_,_,⟨rfl,rfl⟩,?_⟩|refine And.intro (a:=chkPend _ _ _ _ _ _) ?_ ?_|fail
  conv=>whnf
  skip
  ·have:=hgf.len.2
   (try unfold I64);omega
  refine ⟨k+1,?_,hk2,by omega⟩
  have e1:((allIns (g.take (k+1))).map (freshQ g rm)).map pipeV=((allIns (g.take k)++g[k].ins.take g[k].ins.length).map (freshQ g rm)).map pipeV:=by rw [hsp,List.take_length]
  have e2:((g.take (k+1)).map freshP).map procV=((g.take k).map freshP).map procV++[freshP g[k]].map procV:=by
   rw [List.take_succ_eq_append_getElem hk2,List.map_append,List.map_append];rfl
  show Wk _ _ _ _ [.box [.sl nodeV g],.box [.nil,.nil,.nil,.nil,.nil],.box [.sl nodeV g,.sl fileV f,.own 3,.own 4,.nil],.row 4 (((allIns (g.take (k+1))).map (freshQ g rm)).map pipeV),.row 5 (((g.take (k+1)).map freshP).map procV)]
  rw [e1,e2]
  exact (by (refine qc_ [some 0,some 1,some 2,some 3,some 6] rfl rfl ?_ ?_<;>(repeat' first|exact True.intro|exact rfl|exact .inl rfl|exact .inr rfl|refine And.intro ?_ ?_|fail)))
 ·have h:=of_decide_eq_true (by assumption:decide ((j:Int)<(g[k].ins.length:Int))=true)
  omega
 have hj2:j<g[k].ins.length:=by
  have h:=of_decide_eq_true (by assumption:decide ((j:Int)<(g[k].ins.length:Int))=true)
  omega
 obtain ⟨a,o,hpo,hal,-⟩:=hgf.port k hk2 j (by unfold nI;rw [qt_ hk2];exact hj2)
 have hpj:g[k].ins[j]=⟨(a:Int),(o:Int)⟩:=by
  rw [←hpo]
  unfold inP
  rw [qt_ hk2,List.getD_eq_getElem?_getD,List.getElem?_eq_getElem hj2]
  rfl
 have hag:a<g.length:=by omega
 have hfq:freshQ g rm g[k].ins[j]=⟨[],if g[a].kind=2 then 0 else rm,false,false⟩:=by
  rw [hpj]
  unfold freshQ
  dsimp only
  rw [Int.toNat_natCast,List.getD_eq_getElem?_getD,List.getElem?_eq_getElem hag]
  rfl
 conv=>whnf
 refine qd_ [2,3,6,10,12,15,41,42,43,48,49,50] (σ:=Unit) (fun _=>[(15,.ptr 7 0 0)]) (fun _=>[.box [.sl nodeV g],.box [.nil,.nil,.nil,.nil,.nil],.box [.sl nodeV g,.sl fileV f,.own 3,.own 4,.nil],.row 4 (((allIns (g.take k)++g[k].ins.take j).map (freshQ g rm)).map pipeV),.row 5 (((g.take k).map freshP).map procV),.box (nodeV g[k]).cells,.box (portV g[k].ins[j]).cells,.box [.nil,.int .i64 (if g[a].kind=2 then 0 else rm),.lit false,.lit false]]) (fun _=>True) ?_
 conv=>whnf
 refine ⟨?_,fun _ _=>?_⟩
 ·conv=>whnf
  refine ⟨a,by rw [hpj],hag,rfl,?_⟩
  repeat' first|(refine fun (b:Bool) hb=>?_;cases b<;>first|exact absurd hb (by decide)|exact nfl hb|exact nfr hb|skip)|fail
  ·have h2:¬ g[a].kind=2:=of_decide_eq_false (by assumption)
   conv=>whnf
   rw [if_neg h2]
   exact ⟨(),(by (refine qc_ [some 0,some 1,some 2,some 3,some 4,some 5,some 6,some 7] rfl rfl ?_ ?_<;>(repeat' first|exact True.intro|exact rfl|exact .inl rfl|exact .inr rfl|refine And.intro ?_ ?_|fail))),trivial⟩
  ·have h2:g[a].kind=2:=of_decide_eq_true (by assumption)
   conv=>whnf
   rw [if_pos h2]
   exact ⟨(),(by (refine qc_ [some 0,some 1,some 2,some 3,some 4,some 5,some 6,some 7] rfl rfl ?_ ?_<;>(repeat' first|exact True.intro|exact rfl|exact .inl rfl|exact .inr rfl|refine And.intro ?_ ?_|fail))),trivial⟩
 conv=>whnf
 refine ⟨UInt8,byteV,?_⟩
 repeat' first|refine And.intro (a:=I64 _) ?_ ?_|refine And.intro (a:=_≤140737488355328) ?_ ?_|refine ⟨rfl,?_⟩|fail
 ·show ((((allIns (g.take k)++g[k].ins.take j).map (freshQ g rm)).map pipeV).length+1)*40≤140737488355328
  rw [List.length_map,List.length_map,List.length_append,List.length_take]
  omega
 ·unfold I64;omega
 refine ⟨j+1,?_,hj2,by omega⟩
 show Wk _ _ _ _ [.box [.sl nodeV g],.box [.nil,.nil,.nil,.nil,.nil],.box [.sl nodeV g,.sl fileV f,.own 3,.own 4,.nil],.row 4 (((allIns (g.take k)++g[k].ins.take (j+1)).map (freshQ g rm)).map pipeV),.row 5 (((g.take k).map freshP).map procV),.box (nodeV g[k]).cells]
 have e1:((allIns (g.take k)++g[k].ins.take (j+1)).map (freshQ g rm)).map pipeV=((allIns (g.take k)++g[k].ins.take j).map (freshQ g rm)).map pipeV++[.agg [.sl byteV [],.int .i64 (if g[a].kind=2 then 0 else rm),.bool false,.bool false]]:=by
  rw [List.take_succ_eq_append_getElem hj2,←List.append_assoc,List.map_append,List.map_append,List.map_cons,List.map_nil,hfq]
  rfl
 rw [e1]
 exact (by (refine qc_ [some 0,some 1,some 2,some 9,some 4,some 5] rfl rfl ?_ ?_<;>(repeat' first|exact True.intro|exact rfl|exact .inl rfl|exact .inr rfl|refine And.intro ?_ ?_|fail)))
end Gv
namespace Gv
variable [Glob] [Laid]
theorem qdi_:callable Tryz.prog 105=true:=by kernel_rfl
def outsR_S:Spec:=fun args K=>∃ n:Gp.Node,args=[nodeV n]∧K (.int .i64 (outsN n))
noncomputable def outsR_lib:List (Nat × Spec):=[]
noncomputable def outsR_fns:List (Nat × FnI):=[]
noncomputable def outsR_prims:List (Nat × PSpec):=[]
theorem qtd_:EnvOK ⟨Tryz.prog,tys,outsR_lib,outsR_fns,outsR_prims,[]⟩:=qf_ mixed0 tys0 .nil .nil .nil rfl
theorem qdh_:Pure Tryz.prog 105 outsR_S:=by
 refine qe_ qtd_ 6 (fi:={fn:=Tryz.f105,hooks:=[],draws:=[]}) ⟨Tryz.func105,by kernel_rfl,by kernel_rfl⟩ ?_
 rintro _ K ⟨n,rfl,hK⟩
 replace hK:∀ r,r=.int .i64 (outsN n)→K r:=fun r h=>h ▸ hK
 unfold outsN at hK
 repeat' first|(refine fun (b:Bool) hb=>?_;cases b<;>first|exact absurd hb (by decide)|exact nfl hb|exact nfr hb|skip)|fail
 ·have h2:¬ n.kind=2:=of_decide_eq_false (by assumption)
  have h5:¬ n.kind=5:=of_decide_eq_false (by assumption)
  rw [if_neg h2,if_neg h5] at hK
  exact hK _ rfl
 ·have h2:¬ n.kind=2:=of_decide_eq_false (by assumption)
  have h5:n.kind=5:=of_decide_eq_true (by assumption)
  rw [if_neg h2,if_pos h5] at hK
  exact hK _ rfl
 ·have h2:n.kind=2:=of_decide_eq_true (by assumption)
  rw [if_pos h2] at hK
  exact hK _ rfl
end Gv
namespace Gv
variable [Glob] [Laid] [Nums] [Errs]
theorem qny_:callable Tryz.prog 48=true:=by kernel_rfl
def freshR_S:Spec:=fun args K=>∃ (g:List Gp.Node) (f:List FileS) (rm:Int),args=[.agg [.sl nodeV g],.sl fileV f,.int .i64 rm]∧checkG g=0∧K (machV (freshM g f rm))
noncomputable def freshR_lib:List (Nat × Spec):=[(105,outsR_S)]
noncomputable def freshR_fns:List (Nat × FnI):=[]
noncomputable def freshR_prims:List (Nat × PSpec):=[]
theorem qrh_:EnvOK ⟨Tryz.prog,tys,freshR_lib,freshR_fns,freshR_prims,[]⟩:=qf_ mixed0 tys0 (.cons qdi_ qdh_ .nil) .nil .nil rfl
theorem qln_:Pure Tryz.prog 48 freshR_S:=by
 refine qe_ qrh_ 6 (fi:={fn:=Tryz.f48,hooks:=[11],draws:=[(13,[0,1,0,4,12,28,0,64,192,508,1020,2047,4095,8191])]}) ⟨Tryz.func48,by kernel_rfl,by kernel_rfl⟩ ?_
 rintro _ K ⟨g,f,rm,rfl,h4,hK⟩
 replace hK:∀ r,r=machV (freshM g f rm)→K r:=fun r h=>h ▸ hK
 have hgf:=gf_of h4
 have hin:=qq_ h4
 conv=>whnf
 repeat' first|(refine fun (hl:_≤MAXL)=>?_)|fail
 conv=>whnf
 refine qb_ [2,3,6,7,17,18] (σ:=Nat) (fun k=>[(19,.int .i64 k)]) (fun k=>[.box [.sl nodeV g],.box [.nil,.nil,.nil,.nil,.nil],.box [.sl nodeV g,.sl fileV f,.own 3,.own 4,.nil],.row 4 (((allIns (g.take k)).map (freshQ g rm)).map pipeV),.row 5 (((g.take k).map freshP).map procV)]) (fun k=>k≤g.length) (fun k=>g.length-k) 0 ?_
 conv=>whnf
 refine ⟨(by (refine qc_ [some 0,some 1,some 2,none,none] rfl rfl ?_ ?_<;>(repeat' first|exact True.intro|exact rfl|exact .inl rfl|exact .inr rfl|refine And.intro ?_ ?_|fail))),Nat.zero_le _,fun k hk=>?_⟩
 repeat' first|refine ⟨_,_,_,LeL.refl _,?_⟩|(refine fun (b:Bool) hb=>?_;cases b<;>first|exact absurd hb (by decide)|exact nfl hb|exact nfr hb|skip)|(refine fun (hl:_≤MAXL)=>?_)|refine ⟨_,rfl,?_,rfl,?_⟩|fail
 ·have hkl:k=g.length := by
   have h:=of_decide_eq_false (by assumption:decide ((k:Int)<(g.length:Int))=false)
   omega
  subst hkl
  conv=>whnf
  refine ⟨UInt8,byteV,?_⟩
  refine hK _ ?_
  rw [List.take_length]
  rfl
 ·have h:=of_decide_eq_true (by assumption:decide ((k:Int)<(g.length:Int))=true)
  omega
 have hk2:k<g.length:=by
  have h:=of_decide_eq_true (by assumption:decide ((k:Int)<(g.length:Int))=true)
  omega
 have hcn:=hgf.node k hk2
 have hi5:=z7_ hcn
 rw [qt_ hk2] at hi5 hcn
 have hsp:allIns (g.take (k+1))=allIns (g.take k)++g[k].ins:=by
  rw [List.take_succ_eq_append_getElem hk2,qp_]
  simp [allIns]
 have hsl:(allIns (g.take (k+1))).length≤(allIns g).length:=by
  conv=>rhs;rw [←List.take_append_drop (k+1) g,qp_,List.length_append]
  omega
 rw [hsp,List.length_append] at hsl
 conv=>whnf
 refine qb_ [2,3,6,7,9,17,18,19,24,25] (σ:=Nat) (fun j=>[(26,.int .i64 j)]) (fun j=>[.box [.sl nodeV g],.box [.nil,.nil,.nil,.nil,.nil],.box [.sl nodeV g,.sl fileV f,.own 3,.own 4,.nil],.row 4 (((allIns (g.take k)++g[k].ins.take j).map (freshQ g rm)).map pipeV),.row 5 (((g.take k).map freshP).map procV),.box (nodeV g[k]).cells]) (fun j=>j≤g[k].ins.length) (fun j=>g[k].ins.length-j) 0 ?_
 conv=>whnf
 refine ⟨?_,Nat.zero_le _,fun j hj=>?_⟩
 ·have e:allIns (g.take k)++g[k].ins.take 0=allIns (g.take k):=by simp
  rw [e]
  exact (by (refine qc_ [some 0,some 1,some 2,some 3,some 4,some 5] rfl rfl ?_ ?_<;>(repeat' first|exact True.intro|exact rfl|exact .inl rfl|exact .inr rfl|refine And.intro ?_ ?_|fail)))
 repeat' first|exact True.intro|(refine fun (b:Bool) hb=>?_;cases b<;>first|exact absurd hb (by decide)|exact nfl hb|exact nfr hb|skip)|refine ⟨_,⟨rfl,rfl⟩,?_⟩|refine ⟨_,(fun _=>⟨rfl,rfl⟩),?_⟩|refine And.intro (a:=chkPast _ _ _ _ _ _ _ _) ?_ ?_|refine ⟨_,rfl,?_,rfl,?_⟩|fail
 ·have hjl:j=g[k].ins.length := by
   have h:=of_decide_eq_false (by assumption:decide ((j:Int)<(g[k].ins.length:Int))=false)
   omega
  subst hjl
  have ho5:=qy_ hcn
  conv=>whnf
  apply Exists.intro
  apply And.intro
  ·refine ⟨rfl,g[k].ins.length,rfl,by show g[k].ins.length*24≤_;omega,Bs,blV,List.replicate g[k].ins.length [],qd5_ _,?_⟩
   exact ⟨rfl,rfl⟩
  conv=>whnf
  repeat' first|exact True.intro|refine ⟨_,⟨rfl,rfl⟩,?_⟩|refine And.intro (a:=chkPast _ _ _ _ _ _ _ _) ?_ ?_|fail
  conv=>whnf
  apply Exists.intro
  apply And.intro
  ·refine ⟨g[k],rfl,?_⟩
   exact ⟨rfl,rfl⟩
  conv=>whnf
  apply Exists.intro
  apply And.intro
  ·refine ⟨rfl,(outsN g[k]).toNat,by omega,by show (outsN g[k]).toNat*24≤_;omega,Bs,blV,List.replicate (outsN g[k]).toNat [],qd5_ _,?_⟩
   exact ⟨rfl,rfl⟩
  conv=>whnf
  repeat' first|refine ⟨_,⟨rfl,rfl⟩,?_⟩|fail
  conv=>whnf
  refine ⟨_,⟨ProcS,procV,[freshP g[k]],LeL.refl _,rfl,rfl⟩,?_⟩
  conv=>whnf
  apply Exists.intro
  apply Exists.intro
  apply And.intro
  ·refine ⟨fun _=>rfl,?_,rfl,rfl⟩
   show ((((g.take k).map freshP).map procV).length+1)*64≤140737488355328
   rw [List.length_map,List.length_map,List.length_take]
   have:=hgf.len.2
   omega
  conv=>whnf
  repeat' first|exact True.intro|refine And.intro (a:=I64 _) ?_ ?_|refine ⟨_,⟨rfl,rfl⟩,?_⟩|refine ⟨_,_,⟨rfl,rfl⟩,?_⟩|refine And.intro (a:=chkPend _ _ _ _ _ _) ?_ ?_|fail
  conv=>whnf
  skip
  ·have:=hgf.len.2
   (try unfold I64);omega
  refine ⟨k+1,?_,hk2,by omega⟩
  have e1:((allIns (g.take (k+1))).map (freshQ g rm)).map pipeV=((allIns (g.take k)++g[k].ins.take g[k].ins.length).map (freshQ g rm)).map pipeV:=by rw [hsp,List.take_length]
  have e2:((g.take (k+1)).map freshP).map procV=((g.take k).map freshP).map procV++[freshP g[k]].map procV:=by
   rw [List.take_succ_eq_append_getElem hk2,List.map_append,List.map_append];rfl
  show Wk _ _ _ _ [.box [.sl nodeV g],.box [.nil,.nil,.nil,.nil,.nil],.box [.sl nodeV g,.sl fileV f,.own 3,.own 4,.nil],.row 4 (((allIns (g.take (k+1))).map (freshQ g rm)).map pipeV),.row 5 (((g.take (k+1)).map freshP).map procV)]
  rw [e1,e2]
  exact (by (refine qc_ [some 0,some 1,some 2,some 3,some 6] rfl rfl ?_ ?_<;>(repeat' first|exact True.intro|exact rfl|exact .inl rfl|exact .inr rfl|refine And.intro ?_ ?_|fail)))
 ·have h:=of_decide_eq_true (by assumption:decide ((j:Int)<(g[k].ins.length:Int))=true)
  omega
 have hj2:j<g[k].ins.length:=by
  have h:=of_decide_eq_true (by assumption:decide ((j:Int)<(g[k].ins.length:Int))=true)
  omega
 obtain ⟨a,o,hpo,hal,-⟩:=hgf.port k hk2 j (by unfold nI;rw [qt_ hk2];exact hj2)
 have hpj:g[k].ins[j]=⟨(a:Int),(o:Int)⟩:=by
  rw [←hpo]
  unfold inP
  rw [qt_ hk2,List.getD_eq_getElem?_getD,List.getElem?_eq_getElem hj2]
  rfl
 have hag:a<g.length:=by omega
 have hfq:freshQ g rm g[k].ins[j]=⟨[],if g[a].kind=2 then 0 else rm,false,false⟩:=by
  rw [hpj]
  unfold freshQ
  dsimp only
  rw [Int.toNat_natCast,List.getD_eq_getElem?_getD,List.getElem?_eq_getElem hag]
  rfl
 conv=>whnf
 refine qd_ [2,3,6,7,9,12,17,18,19,24,25,26] (σ:=Unit) (fun _=>[(12,.ptr 7 0 0)]) (fun _=>[.box [.sl nodeV g],.box [.nil,.nil,.nil,.nil,.nil],.box [.sl nodeV g,.sl fileV f,.own 3,.own 4,.nil],.row 4 (((allIns (g.take k)++g[k].ins.take j).map (freshQ g rm)).map pipeV),.row 5 (((g.take k).map freshP).map procV),.box (nodeV g[k]).cells,.box (portV g[k].ins[j]).cells,.box [.nil,.int .i64 (if g[a].kind=2 then 0 else rm),.lit false,.lit false]]) (fun _=>True) ?_
 conv=>whnf
 refine ⟨?_,fun _ _=>?_⟩
 ·conv=>whnf
  refine ⟨a,by rw [hpj],hag,rfl,?_⟩
  repeat' first|(refine fun (b:Bool) hb=>?_;cases b<;>first|exact absurd hb (by decide)|exact nfl hb|exact nfr hb|skip)|fail
  ·have h2:g[a].kind=2:=by simpa using ‹(!decide (g[a].kind=2))=false›
   conv=>whnf
   rw [if_pos h2]
   exact ⟨(),(by (refine qc_ [some 0,some 1,some 2,some 3,some 4,some 5,some 6,some 7] rfl rfl ?_ ?_<;>(repeat' first|exact True.intro|exact rfl|exact .inl rfl|exact .inr rfl|refine And.intro ?_ ?_|fail))),trivial⟩
  ·have h2:¬ g[a].kind=2:=by simpa using ‹(!decide (g[a].kind=2))=true›
   conv=>whnf
   rw [if_neg h2]
   exact ⟨(),(by (refine qc_ [some 0,some 1,some 2,some 3,some 4,some 5,some 6,some 7] rfl rfl ?_ ?_<;>(repeat' first|exact True.intro|exact rfl|exact .inl rfl|exact .inr rfl|refine And.intro ?_ ?_|fail))),trivial⟩
 conv=>whnf
 refine ⟨UInt8,byteV,?_⟩
 repeat' first|refine And.intro (a:=I64 _) ?_ ?_|refine And.intro (a:=_≤140737488355328) ?_ ?_|refine ⟨rfl,?_⟩|fail
 ·show ((((allIns (g.take k)++g[k].ins.take j).map (freshQ g rm)).map pipeV).length+1)*40≤140737488355328
  rw [List.length_map,List.length_map,List.length_append,List.length_take]
  omega
 ·unfold I64;omega
 refine ⟨j+1,?_,hj2,by omega⟩
 show Wk _ _ _ _ [.box [.sl nodeV g],.box [.nil,.nil,.nil,.nil,.nil],.box [.sl nodeV g,.sl fileV f,.own 3,.own 4,.nil],.row 4 (((allIns (g.take k)++g[k].ins.take (j+1)).map (freshQ g rm)).map pipeV),.row 5 (((g.take k).map freshP).map procV),.box (nodeV g[k]).cells]
 have e1:((allIns (g.take k)++g[k].ins.take (j+1)).map (freshQ g rm)).map pipeV=((allIns (g.take k)++g[k].ins.take j).map (freshQ g rm)).map pipeV++[.agg [.sl byteV [],.int .i64 (if g[a].kind=2 then 0 else rm),.bool false,.bool false]]:=by
  rw [List.take_succ_eq_append_getElem hj2,←List.append_assoc,List.map_append,List.map_append,List.map_cons,List.map_nil,hfq]
  rfl
 rw [e1]
 exact (by (refine qc_ [some 0,some 1,some 2,some 9,some 4,some 5] rfl rfl ?_ ?_<;>(repeat' first|exact True.intro|exact rfl|exact .inl rfl|exact .inr rfl|refine And.intro ?_ ?_|fail)))
end Gv
namespace Gv
variable [Glob] [Laid]
theorem qit_:callable Tryz.prog 54=true:=by kernel_rfl
def copyG_P:PSpec:=fun args rows K=>∃ (m:MachS),args=[machV m]∧copyZ m∧∀ Q,numK rows.length fun a=>numK (Nat.add rows.length 1) fun b=>appK rows [.row 4 (m.pipes.map pipeV),.row 5 (procEls Q m.p),.pack Q (subsOf m.p)] fun rows'=>K (.agg [.sl nodeV m.g,.sl fileV m.f,.own a,.own b,.sl byteV m.sunk]) rows'
theorem qb8_:PrimOK Tryz.prog 54 copyG_P:=by
 intro w0 m0 args rows K R m' q w us C hv hT
 obtain ⟨m,rfl,hz,hK⟩:=hT
 refine qh3_ (qem_ qj9_) C (qna_ hv rfl) ⟨m,rfl,rfl,hz,fun Q ex=>⟨[.row 4 (m.pipes.map pipeV),.row 5 (procEls Q m.p),.pack Q (subsOf m.p)],ex,_,rfl,Nat.zero_le _,?_,rfl,?_,?_,_,rfl,?_,?_⟩⟩
 ·intro y hy
  simp only [List.mem_cons,List.not_mem_nil,or_false] at hy
  rcases hy with rfl|rfl|rfl<;>rfl
 ·intro c hc
  simp only [List.mem_cons,List.not_mem_nil,or_false] at hc
  rcases hc with rfl|rfl|rfl|rfl|rfl
  ·exact .inl rfl
  ·exact .inl rfl
  ·exact .inr ⟨0,by simp,rfl⟩
  ·exact .inr ⟨1,by simp,rfl⟩
  ·exact .inl rfl
 ·intro y hy
  simp only [List.mem_cons,List.not_mem_nil,or_false] at hy
  rcases hy with rfl|rfl|rfl<;>rfl
 ·intro c hc
  simp only [List.mem_cons,List.not_mem_nil,or_false] at hc
  rcases hc with rfl|rfl|rfl|rfl|rfl
  ·exact .inl rfl
  ·exact .inl rfl
  ·exact .inr ⟨0,rfl⟩
  ·exact .inr ⟨1,rfl⟩
  ·exact .inl rfl
 ·exact appK_ok _ _ _ (xm_ _ _ (xm_ _ _ (hK Q)))
end Gv
namespace Gv
variable [Glob] [Laid] [Nums] [Errs]
def stepG_P:PSpec:=fun args rows K=>StepG stepZ args rows K
theorem qkf_:PrimOK Tryz.prog 55 stepG_P:=by
 exact qjh_ qjq_
end Gv
namespace Gv
variable [Glob] [Laid] [Nums] [Errs]
theorem qis_:callable Tryz.prog 55=true:=by kernel_rfl
def stepH_P:PSpec:=fun args rows K=>∃ (m:MachS) (i r0 r1 r2 r3:Nat) (Q:Loc),args=[.ptr r0 0 0,.int .i64 i]∧rows[r0]?=some (.box [.sl nodeV m.g,.sl fileV m.f,.own r1,.own r2,.sl byteV m.sunk])∧rows[r1]?=some (.row 4 (m.pipes.map pipeV))∧rows[r2]?=some (.row 5 (procEls Q m.p))∧rows[r3]?=some (.pack Q (subsOf m.p))∧FocM m i∧stepZ m i∧setK rows r0 (.box [.sl nodeV (stepM m i).1.g,.sl fileV (stepM m i).1.f,.own r1,.own r2,.sl byteV (stepM m i).1.sunk]) fun a=>setK a r1 (.row 4 ((stepM m i).1.pipes.map pipeV)) fun b=>setK b r2 (.row 5 (procEls Q (stepM m i).1.p)) fun c=>setK c r3 (.pack Q (subsOf (stepM m i).1.p)) fun d=>K (.int .i64 (stepM m i).2) d
theorem qb1_:PrimOK Tryz.prog 55 stepH_P:=by
 intro w0 m0 args rows K R m' q w us C hv hT
 obtain ⟨m,i,r0,r1,r2,r3,Q,rfl,h0,h1,h2,h3,hF,hZ,hK⟩:=hT
 refine qkf_ w0 m0 _ _ K R m' q w us C hv ⟨m,i,r0,r1,r2,r3,Q,rfl,h0,h1,h2,h3,hF.foc,hZ,?_⟩
 exact (qx_ _ _ _ _ (qx_ _ _ _ _ (qx_ _ _ _ _ (qx_ _ _ _ _ hK).2).2).2).2
end Gv
namespace Gv
variable [Glob] [Laid] [Nums] [Errs]
def stepP (m:MachS) (i:Int):MachS × Int:=if checkMach m≠0 then (zM,checkMach m) else if i<0∨(m.p.length:Int)≤i then (zM,5) else if (stepM m i.toNat).2≠0 then (zM,(stepM m i.toNat).2) else ((stepM m i.toNat).1,0)
theorem qif_:callable Tryz.prog 12=true:=by kernel_rfl
def stepX_S:Spec:=fun args K=>∃ (m:MachS) (i:Int),args=[machV m,.int .i64 i]∧K (.tup [machV (stepP m i).1,.int .i64 (stepP m i).2])
noncomputable def stepX_lib:List (Nat × Spec):=[(41,checkMX_S)]
noncomputable def stepX_fns:List (Nat × FnI):=[(54,{ fn:=Tryz.f54,spec:=some copyG_P }),(55,{ fn:=Tryz.f55,spec:=some stepH_P })]
noncomputable def stepX_prims:List (Nat × PSpec):=[]
theorem qsw_:EnvOK ⟨Tryz.prog,tys,stepX_lib,stepX_fns,stepX_prims,[]⟩:=qf_ mixed0 tys0 (.cons wc_ vt_ .nil) (.told qit_ rfl qb8_ (.told qis_ rfl qb1_ .nil)) .nil rfl
theorem qin_:Pure Tryz.prog 12 stepX_S:=by
 refine qe_ qsw_ 6 (fi:={fn:=Tryz.f12,hooks:=[10],draws:=[]}) ⟨Tryz.func12,by kernel_rfl,by kernel_rfl⟩ ?_
 rintro _ K ⟨m,i,rfl,hK⟩
 replace hK:∀ r,r=.tup [machV (stepP m i).1,.int .i64 (stepP m i).2]→K r:=fun r h=>h ▸ hK
 skip
 refine ⟨m,rfl,?_⟩
 repeat' first|(refine fun (b:Bool) hb=>?_;cases b<;>first|exact absurd hb (by decide)|exact nfl hb|exact nfr hb|skip)|(refine fun (hl:_≤MAXL)=>?_)|fail
 all_goals (try (conv=>whnf))
 all_goals (skip)
 rotate_left
 ·have h0:checkMach m=0:=by simpa using ‹(!decide (checkMach m=0))=false›
  have hi:=of_decide_eq_true (by assumption:decide ((m.p.length:Int)≤i)=true)
  refine ⟨Gp.Node,nodeV,?_⟩
  refine ⟨FileS,fileV,?_⟩
  refine ⟨PipeS,pipeV,?_⟩
  refine ⟨ProcS,procV,?_⟩
  refine ⟨UInt8,byteV,?_⟩
  refine hK _ ?_
  unfold stepP
  rw [if_neg (by rw [h0];decide),if_pos (.inr hi)]
  rfl
 ·have h0:checkMach m=0:=by simpa using ‹(!decide (checkMach m=0))=false›
  have hi:=of_decide_eq_true (by assumption:decide (i<0)=true)
  refine ⟨Gp.Node,nodeV,?_⟩
  refine ⟨FileS,fileV,?_⟩
  refine ⟨PipeS,pipeV,?_⟩
  refine ⟨ProcS,procV,?_⟩
  refine ⟨UInt8,byteV,?_⟩
  refine hK _ ?_
  unfold stepP
  rw [if_neg (by rw [h0];decide),if_pos (.inl hi)]
  rfl
 ·have h0:checkMach m≠0:=by simpa using ‹(!decide (checkMach m=0))=true›
  refine ⟨Gp.Node,nodeV,?_⟩
  refine ⟨FileS,fileV,?_⟩
  refine ⟨PipeS,pipeV,?_⟩
  refine ⟨ProcS,procV,?_⟩
  refine ⟨UInt8,byteV,?_⟩
  refine hK _ ?_
  unfold stepP
  rw [if_pos h0]
  rfl
 have h0:checkMach m=0:=by simpa using ‹(!decide (checkMach m=0))=false›
 have hi1:=of_decide_eq_false (by assumption:decide (i<0)=false)
 have hi2:=of_decide_eq_false (by assumption:decide ((m.p.length:Int)≤i)=false)
 obtain ⟨k,rfl⟩:∃ k:Nat,i=k:=⟨i.toNat,by omega⟩
 have hkl:k<m.p.length:=by omega
 have R:=w0_ h0
 obtain ⟨hF,hZ⟩:=qfq_ R hkl
 have hP:stepP m (k:Int)=if (stepM m k).2≠0 then (zM,(stepM m k).2) else ((stepM m k).1,0):=by
  unfold stepP
  rw [if_neg (by rw [h0];decide),if_neg (by omega),Int.toNat_natCast]
 refine ⟨m,rfl,qbs_ R,fun Q=>?_⟩
 conv=>whnf
 refine qd_ [2,4] (σ:=Unit) (fun _=>[]) (fun _=>[.box [.sl nodeV (stepM m k).1.g,.sl fileV (stepM m k).1.f,.own 2,.own 3,.sl byteV (stepM m k).1.sunk],.box [.nil,.nil,.nil,.nil,.nil],.row 4 ((stepM m k).1.pipes.map pipeV),.row 5 ((stepM m k).1.p.map procV),.dead]) (fun _=>(stepM m k).2=0) ?_
 conv=>whnf
 refine ⟨?_,fun _ h2=>?_⟩
 ·conv=>whnf
  refine ⟨m,k,0,2,3,4,Q,rfl,rfl,rfl,rfl,rfl,hF,hZ,?_⟩
  conv=>whnf
  repeat' first|(refine fun (b:Bool) hb=>?_;cases b<;>first|exact absurd hb (by decide)|exact nfl hb|exact nfr hb|skip)|fail
  ·exact ⟨(),(qat_ 3 4 rfl rfl).trans (by (refine qc_ [some 0,some 1,some 2,some 3,some 4] rfl rfl ?_ ?_<;>(repeat' first|exact True.intro|exact rfl|exact .inl rfl|exact .inr rfl|refine And.intro ?_ ?_|fail))),by simpa using ‹(!decide ((stepM m k).2=0))=false›⟩
  ·have h2:(stepM m k).2≠0:=by simpa using ‹(!decide ((stepM m k).2=0))=true›
   conv=>whnf
   refine ⟨Gp.Node,nodeV,?_⟩
   refine ⟨FileS,fileV,?_⟩
   refine ⟨PipeS,pipeV,?_⟩
   refine ⟨ProcS,procV,?_⟩
   refine ⟨UInt8,byteV,?_⟩
   refine hK _ ?_
   rw [hP,if_pos h2]
   rfl
 conv=>whnf
 repeat' first|refine ⟨_,_,_,LeL.refl _,?_⟩|fail
 conv=>whnf
 refine hK _ ?_
 rw [hP,if_neg (by rw [h2];decide)]
 rfl
end Gv
namespace Gv
variable [Glob] [Laid]
theorem x0_ {α:Type} (p : α→Bool):∀ l:List α,(l.dropWhile p).length≤l.length
 | []=>Nat.le_refl _
 | x::l=>by
  unfold List.dropWhile
  split
  ·have:=x0_ p l
   simp;omega
  ·exact Nat.le_refl _
theorem qo5_ (s cs:Bs):(Lib.trimS s cs).length≤s.length:=by
 unfold Lib.trimS Lib.trimLeftS Lib.trimRightS
 refine Nat.le_trans (x0_ _ _) ?_
 rw [List.length_reverse]
 refine Nat.le_trans (x0_ _ _) ?_
 rw [List.length_reverse]
 exact Nat.le_refl _
theorem qp3_:callable Tryz.prog 140=true:=by kernel_rfl
def trimS_S:Spec:=fun args K=>∃ (s cs:Bs),args=[.str s,.str cs]∧(cs.length<4294967281∧cs.all (fun b=>decide (b.toNat<128))=true)∧K (.str (Lib.trimS s cs))
theorem qq0_:Pure Tryz.prog 140 trimS_S:=by
 intro w m args us K hm hg hv hT
 obtain ⟨s,cs,rfl,⟨h1,h2⟩,hK⟩:=hT
 obtain ⟨a,b,rfl,ha,hb⟩:=args2 hv.1 hv.2
 obtain ⟨rfl,hs⟩:=z1_ ha
 obtain ⟨rfl,-⟩:=z1_ hb
 refine (Any.strings_Trim_laid Tryz.laysTrim (by kernel_rfl) (ba s) (ba cs) w (by rw [za_];exact hs) (by rw [za_];exact h1) (ascii_of_all h2)).mono fun e w' ⟨he,hw⟩=>?_
 exact ⟨_,_,he,Bel.of_below hw,hK,.str (Nat.le_trans (qo5_ s cs) hs)⟩
end Gv
namespace Gv
variable [Glob] [Laid]
def letters:Bs:=[97,98,99,100,101,102,103,104,105,106,107,108,109,110,111,112,113,114,115,116,117,118,119,120,121,122,48,49,50,51,52,53,54,55,56,57]
theorem qe1_ (c:UInt8):letters.contains c=wordByte c:=by
 have h:∀ n:Fin 256,letters.contains (UInt8.ofNat n.1)=wordByte (UInt8.ofNat n.1):=by decide +kernel
 have:=h ⟨c.toNat,c.toNat_lt⟩
 simpa using this
theorem xr_ {α:Type} (p : α→Bool):∀ l:List α,l.dropWhile p=[]↔l.all p=true
 | []=>by simp
 | x::l=>by
  unfold List.dropWhile
  split
  ·rename_i h
   rw [xr_ p l]
   simp [h]
  ·rename_i h
   simp [h]
theorem yo_ {α:Type} (p : α→Bool):∀ (l:List α) x r,l.dropWhile p=x::r→p x=false
 | [],x,r,h=>by simp at h
 | y::l,x,r,h=>by
  unfold List.dropWhile at h
  split at h
  ·exact yo_ p l x r h
  ·rename_i hy
   cases h
   simpa using hy
theorem qrq_ (s cs:Bs):Lib.trimS s cs=[]↔s.all (fun c=>cs.contains c)=true:=by
 unfold Lib.trimS Lib.trimLeftS Lib.trimRightS
 have e:s.all (fun c=>cs.contains c)=s.reverse.all (fun c=>cs.contains c):=by simp
 rw [xr_,e,←xr_ (fun c=>cs.contains c) s.reverse]
 cases hd:s.reverse.dropWhile (fun c=>cs.contains c) with
 | nil=>simp
 | cons x r =>
  have:=yo_ _ _ _ _ hd
  simp at this
  simp [this]
theorem vw_:callable Tryz.prog 82=true:=by kernel_rfl
def isWordR_S:Spec:=fun args K=>∃ (s:Bs),args=[.str s]∧K (.bool (isWord s))
noncomputable def isWordR_lib:List (Nat × Spec):=[(140,trimS_S)]
noncomputable def isWordR_fns:List (Nat × FnI):=[]
noncomputable def isWordR_prims:List (Nat × PSpec):=[]
theorem qm3_:EnvOK ⟨Tryz.prog,tys,isWordR_lib,isWordR_fns,isWordR_prims,[]⟩:=qf_ mixed0 tys0 (.cons qp3_ qq0_ .nil) .nil .nil rfl
theorem v1_:Pure Tryz.prog 82 isWordR_S:=by
 refine qe_ qm3_ 6 (fi:={fn:=Tryz.f82,hooks:=[],draws:=[]}) ⟨Tryz.func82,by kernel_rfl,by kernel_rfl⟩ ?_
 rintro _ K ⟨s,rfl,hK⟩
 replace hK:∀ r,r=.bool (isWord s)→K r:=fun r h=>h ▸ hK
 repeat' first|(refine fun (b:Bool) hb=>?_;cases b<;>first|exact absurd hb (by decide)|exact nfl hb|exact nfr hb|skip)|(refine fun (hl:_≤MAXL)=>?_)|fail
 ·refine hK _ ?_
  have:s=[]:=by
   have h:decide ((0:Int)<s.length)=false:=by assumption
   have:¬ (0:Int)<s.length:=by simpa using h
   exact List.length_eq_zero_iff.1 (by omega)
  subst this
  rfl
 ·refine hK _ ?_
  have h:decide ((s.length:Int)≤12)=false:=by assumption
  have:¬ (s.length:Int)≤12:=by simpa using h
  have h2:¬ s.length≤12:=by omega
  simp [isWord,h2]
 ·refine ⟨s,letters,rfl,⟨by decide,by decide⟩,?_⟩
  skip
  refine hK _ ?_
  have h:decide ((s.length:Int)≤12)=true:=by assumption
  have h1:(s.length:Int)≤12:=by simpa using h
  have h2:s.length≤12:=by omega
  have h:decide ((0:Int)<s.length)=true:=by assumption
  have h3:(0:Int)<s.length:=by simpa using h
  have h4:s≠[]:=fun e=>by subst e;simp at h3
  have e:s.all wordByte=s.all (fun c=>letters.contains c):=by
   congr 1
   funext c
   exact (qe1_ c).symm
  have e2:=qrq_ s letters
  congr 1
  simp only [isWord,h2,h4,e,ne_eq,not_false_eq_true,decide_true,Bool.true_and]
  generalize s.all (fun c=>letters.contains c)=t at e2 ⊢
  cases t
  ·simpa using e2
  ·simpa using e2
end Gv
namespace Gv
variable [Glob] [Laid]
def usesTab:List (List Int × Bs):=[([1],[119]),([2],[119]),([3],[119]),([4],[110]),([5],[45]),([6],[45]),([7],[45]),([8],[45]),([9],[110]),([10],[110])]
theorem qjy_ (c:Cmd):(mget [] usesTab [c.kind]=[]∧(c.kind<1∨10<c.kind))∨(mget [] usesTab [c.kind]=[119]∧(1≤c.kind∧c.kind≤10)∧useWord c=true∧useN c=false)∨(mget [] usesTab [c.kind]=[110]∧(1≤c.kind∧c.kind≤10)∧useWord c=false∧useN c=true∧c.kind≠3)∨(mget [] usesTab [c.kind]=[45]∧(1≤c.kind∧c.kind≤10)∧useWord c=false∧useN c=false∧c.kind≠3):=by
 unfold useWord useN
 generalize c.kind=k
 by_cases h:1≤k∧k≤10
 ·have h2:k=1∨k=2∨k=3∨k=4∨k=5∨k=6∨k=7∨k=8∨k=9∨k=10:=by omega
  rcases h2 with rfl|rfl|rfl|rfl|rfl|rfl|rfl|rfl|rfl|rfl<;>decide
 ·left
  refine ⟨?_,by omega⟩
  have e:∀ j:Int,1≤j→j≤10→¬ [j]=[k]:=fun j h1 h2 e=>by
   simp only [List.cons.injEq,and_true] at e
   omega
  unfold usesTab
  simp only [mget,e 1 (by omega) (by omega),e 2 (by omega) (by omega),e 3 (by omega) (by omega),e 4 (by omega) (by omega),e 5 (by omega) (by omega),e 6 (by omega) (by omega),e 7 (by omega) (by omega),e 8 (by omega) (by omega),e 9 (by omega) (by omega),e 10 (by omega) (by omega),if_false]
theorem qii_:callable Tryz.prog 106=true:=by kernel_rfl
def ccmdR_S:Spec:=fun args K=>∃ (c:Cmd),args=[cmdV c]∧K (.int .i64 (checkCmd c))
noncomputable def ccmdR_lib:List (Nat × Spec):=[(82,isWordR_S)]
noncomputable def ccmdR_fns:List (Nat × FnI):=[]
noncomputable def ccmdR_prims:List (Nat × PSpec):=[]
theorem qsn_:EnvOK ⟨Tryz.prog,tys,ccmdR_lib,ccmdR_fns,ccmdR_prims,[]⟩:=qf_ mixed0 tys0 (.cons vw_ v1_ .nil) .nil .nil rfl
theorem qhr_:Pure Tryz.prog 106 ccmdR_S:=by
 refine qe_ qsn_ 6 (fi:={fn:=Tryz.f106,hooks:=[2],draws:=[]}) ⟨Tryz.func106,by kernel_rfl,by kernel_rfl⟩ ?_
 rintro _ K ⟨c,rfl,hK⟩
 replace hK:∀ r,r=.int .i64 (checkCmd c)→K r:=fun r h=>h ▸ hK
 have hu:=qjy_ c
 skip
 conv=>whnf
 refine qd_ [1] (σ:=Bs) (fun u=>[(3,.str u)]) (fun _=>[.box [.int .i64 c.kind,.str c.word,.int .i64 c.n]]) (fun u=>u=mget [] usesTab [c.kind]) ?_
 conv=>whnf
 refine ⟨?_,fun u hu1=>?_⟩
 ·repeat' first|refine ⟨_,rfl,?_,rfl,?_⟩|refine ⟨Bs,strV,?_⟩|fail
  all_goals try rfl
  refine ⟨[],rfl,?_⟩
  skip
  exact ⟨_,(by (refine qa_ ?_;refine Sel4.mk rfl rfl ?_ ?_<;>(repeat' first|exact True.intro|exact rfl|exact .inl rfl|exact .inr rfl|refine And.intro ?_ ?_|fail))),rfl⟩
 rw [←hu1] at hu
 clear hu1
 unfold checkCmd at hK
 rcases hu with ⟨rfl,h1⟩|⟨rfl,h1,h2,h3⟩|⟨rfl,h1,h2,h3,h4⟩|⟨rfl,h1,h2,h3,h4⟩
 ·repeat' first|(refine fun (b:Bool) hb=>?_;cases b<;>first|exact absurd hb (by decide)|exact nfl hb|exact nfr hb|skip)|fail
  refine hK _ ?_
  rw [if_pos h1]
 all_goals
  have h1':¬ (c.kind<1∨10<c.kind):=by omega
 ·simp only [h1',h2,h3,if_false] at hK
  repeat' first|(refine fun (b:Bool) hb=>?_;cases b<;>first|exact absurd hb (by decide)|exact nfl hb|exact nfr hb|skip)|fail
  ·refine ⟨c.word,rfl,?_⟩
   repeat' first|(refine fun (b:Bool) hb=>?_;cases b<;>first|exact absurd hb (by decide)|exact nfl hb|exact nfr hb|skip)|(refine fun (hl:_≤MAXL)=>?_)|fail
   all_goals (refine hK _ ?_;simp_all;try omega)
  ·refine hK _ ?_
   simp_all
 ·simp only [h1',h2,h3,if_false] at hK
  repeat' first|(refine fun (b:Bool) hb=>?_;cases b<;>first|exact absurd hb (by decide)|exact nfl hb|exact nfr hb|skip)|fail
  all_goals (refine hK _ ?_;simp_all;try omega)
 ·simp only [h1',h2,h3,if_false] at hK
  repeat' first|(refine fun (b:Bool) hb=>?_;cases b<;>first|exact absurd hb (by decide)|exact nfl hb|exact nfr hb|skip)|fail
  all_goals (refine hK _ ?_;simp_all;done)
end Gv
namespace Gv
variable [Glob] [Laid]
theorem qi4_:callable Tryz.prog 107=true:=by kernel_rfl
def checkJR_S:Spec:=fun args K=>∃ (h:Int) (c:Cmd),args=[.int .i64 h,cmdV c]∧K (.int .i64 (checkJoin h c))
noncomputable def checkJR_lib:List (Nat × Spec):=[(106,ccmdR_S)]
noncomputable def checkJR_fns:List (Nat × FnI):=[]
noncomputable def checkJR_prims:List (Nat × PSpec):=[]
theorem qn6_:EnvOK ⟨Tryz.prog,tys,checkJR_lib,checkJR_fns,checkJR_prims,[(38,[true,false,true])]⟩:=qf_ mixed0 tys0 (.cons qii_ qhr_ .nil) .nil .nil (by kernel_rfl)
theorem qj4_:Pure Tryz.prog 107 checkJR_S:=by
 refine qe_ qn6_ 6 (fi:={fn:=Tryz.f107,hooks:=[],draws:=[]}) ⟨Tryz.func107,by kernel_rfl,by kernel_rfl⟩ ?_
 rintro _ K ⟨h,c,rfl,hK⟩
 replace hK:∀ r,r=.int .i64 (checkJoin h c)→K r:=fun r h=>h ▸ hK
 obtain ⟨ck,cw,cn⟩:=c
 obtain ⟨q,hq⟩:∃ q,checkCmd ⟨ck,cw,cn⟩=q:=⟨_,rfl⟩
 unfold checkJoin at hK
 rw [hq] at hK
 repeat' first|(refine fun (b:Bool) hb=>?_;cases b<;>first|exact absurd hb (by decide)|exact nfl hb|exact nfr hb|skip)|fail
 ·exfalso
  have h3:h=4:=by
   have h3:(!decide (h=4))=false:=by assumption
   simpa using h3
  exact absurd h3 (of_decide_eq_false (by assumption:decide (h=4)=false))
 ·have h1:¬ h<1:=of_decide_eq_false (by assumption)
  have h2:¬ 4<h:=of_decide_eq_false (by assumption)
  have h3:h=4:=by
   have h3:(!decide (h=4))=false:=by assumption
   simpa using h3
  refine ⟨⟨ck,cw,cn⟩,rfl,?_⟩
  rw [hq]
  skip
  refine hK _ ?_
  rw [if_neg (by omega),if_neg (by omega)]
 ·have h1:¬ h<1:=of_decide_eq_false (by assumption)
  have h2:¬ 4<h:=of_decide_eq_false (by assumption)
  have h3:¬ h=4:=by
   have h3:(!decide (h=4))=true:=by assumption
   simpa using h3
  have hz:(⟨ck,cw,cn⟩:Cmd)=zCmd:=by
   unfold zCmd
   grind
  conv=>whnf
  refine hK _ ?_
  rw [if_neg (by omega),if_pos h3,if_neg (fun e=>e hz)]
 ·exfalso
  have h3:¬ h=4:=by
   have h3:(!decide (h=4))=true:=by assumption
   simpa using h3
  exact absurd (of_decide_eq_true (by assumption:decide (h=4)=true)) h3
 ·have h1:¬ h<1:=of_decide_eq_false (by assumption)
  have h2:¬ 4<h:=of_decide_eq_false (by assumption)
  have h3:¬ h=4:=by
   have h3:(!decide (h=4))=true:=by assumption
   simpa using h3
  have hz:(⟨ck,cw,cn⟩:Cmd)≠zCmd:=by
   unfold zCmd
   grind
  conv=>whnf
  refine hK _ ?_
  rw [if_neg (by omega),if_pos h3,if_pos hz]
 ·have h2:4<h:=of_decide_eq_true (by assumption)
  conv=>whnf
  refine hK _ ?_
  rw [if_pos (by omega)]
 ·have h2:h<1:=of_decide_eq_true (by assumption)
  conv=>whnf
  refine hK _ ?_
  rw [if_pos (by omega)]
end Gv
namespace Gv
variable [Glob] [Laid]
theorem qcu_:callable Tryz.prog 47=true:=by kernel_rfl
def checkGR_S:Spec:=fun args K=>∃ N:List Gp.Node,args=[.agg [.sl nodeV N]]∧K (.int .i64 (checkG N))
noncomputable def checkGR_lib:List (Nat × Spec):=[(82,isWordR_S),(106,ccmdR_S),(107,checkJR_S),(105,outsR_S)]
noncomputable def checkGR_fns:List (Nat × FnI):=[]
noncomputable def checkGR_prims:List (Nat × PSpec):=[]
theorem qnz_:EnvOK ⟨Tryz.prog,tys,checkGR_lib,checkGR_fns,checkGR_prims,[(47,[true,true]),(38,[true,false,true])]⟩:=qf_ mixed0 tys0 (.cons vw_ v1_ (.cons qii_ qhr_ (.cons qi4_ qj4_ (.cons qdi_ qdh_ .nil)))) .nil .nil (by kernel_rfl)
set_option maxHeartbeats 80000000 in
theorem qci_:Pure Tryz.prog 47 checkGR_S:=by
 refine qe_ qnz_ 6 (fi:={fn:=Tryz.f47,hooks:=[29,32,38],draws:=[(36,[0,1,3,7,15,31,15,127,255,511,1023,2047,4095,8191,16383,32767,65535,32767,163839,32767,557055,1998847,4095999,8290303,16777215,33554431])]}) ⟨Tryz.func47,by kernel_rfl,by kernel_rfl⟩ ?_
 rintro _ K ⟨N,rfl,hK⟩
 replace hK:∀ r,r=.int .i64 (checkG N)→K r:=fun r h=>h ▸ hK
 rw [qpy_] at hK
 repeat' first|(refine fun (b:Bool) hb=>?_;cases b<;>first|exact absurd hb (by decide)|exact nfl hb|exact nfr hb|skip)|(refine fun (hl:_≤MAXL)=>?_)|refine ⟨Bool,V.lit,?_⟩|fail
 rotate_left
 ·have h:(60:Int)<(N.length:Int):=of_decide_eq_true (by assumption)
  rw [if_pos (by omega)] at hK
  exact hK _ rfl
 have h60:¬ (60:Int)<(N.length:Int):=of_decide_eq_false (by assumption)
 rw [if_neg (by omega)] at hK
 conv=>whnf
 refine qb_ [1,3,25,26] (σ:=Nat × Ents) (fun s=>[(27,.int .i64 s.1)]) (fun s=>[.box [.sl nodeV N],.mp 47 4 .pair V.lit s.2]) (fun s=>s.1≤N.length∧nodesR N s.1 (N.drop s.1) s.2=nodesR N 0 N []∧∀ a (h:a<N.length),a<s.1→checkN N[a]=0) (fun s=>N.length-s.1) (0,[]) ?_
 conv=>whnf
 refine ⟨(by (refine qa_ ?_;refine Sel4.mk rfl rfl ?_ ?_<;>(repeat' first|exact True.intro|exact rfl|exact .inl rfl|exact .inr rfl|refine And.intro ?_ ?_|fail))),⟨Nat.zero_le _,rfl,fun a h h2=>by omega⟩,fun s hs=>?_⟩
 obtain ⟨i,u⟩:=s
 obtain ⟨hi,hgo,hck⟩:=hs
 dsimp only at hi hgo hck
 repeat' first|(refine fun (b:Bool) hb=>?_;cases b<;>first|exact absurd hb (by decide)|exact nfl hb|exact nfr hb|skip)|(refine fun (hl:_≤MAXL)=>?_)|refine ⟨_,rfl,?_,rfl,?_⟩|fail
 rotate_left
 ·have hge:¬ (i:Int)<(N.length:Int):=of_decide_eq_false (by assumption)
  have h0:(N.length:Int)=0:=of_decide_eq_true (by assumption)
  conv=>whnf
  refine hK _ (congrArg (V.int .i64) ?_)
  rw [←hgo,List.drop_eq_nil_of_le (by omega),nodesR,if_pos (by omega)]
 ·have h:(i:Int)<(N.length:Int):=of_decide_eq_true (by assumption)
  show i<N.length
  omega
 ·have hlt:i<N.length := by
   have h:(i:Int)<(N.length:Int):=of_decide_eq_true (by assumption)
   omega
  conv=>whnf
  refine qd_ [1,3,4,5,25,26,27] (σ:=Int × Int × Int × Bool × Bool × Bool × Bool) (fun s=>[(6,.int .i64 s.1),(7,.int .i64 s.2.1),(8,.int .i64 s.2.2.1),(9,.bool s.2.2.2.1),(10,.bool s.2.2.2.2.1),(11,.bool s.2.2.2.2.2.1),(12,.bool s.2.2.2.2.2.2)]) (fun _=>[.box [.sl nodeV N],.mp 47 4 .pair V.lit u,.box (nodeV N[i]).cells]) (fun s=>s=descR N[i]) ?_
  conv=>whnf
  refine ⟨?_,fun s hs=>?_⟩
  ·repeat' first|(refine fun (b:Bool) hb=>?_;cases b<;>first|exact absurd hb (by decide)|exact nfl hb|exact nfr hb|skip)|fail
   all_goals first|exact absurd ((by assumption:decide (N[i].kind=1)=true).symm.trans (by assumption:decide (N[i].kind=1)=false)) (by decide)|skip
   ·have h1:¬ N[i].kind=1:=of_decide_eq_false (by assumption)
    have h5:¬ N[i].kind=5:=of_decide_eq_false (by assumption)
    have h2:¬ N[i].kind=2:=of_decide_eq_false (by assumption)
    have h3:¬ N[i].kind=3:=of_decide_eq_false (by assumption)
    have h4:¬ N[i].kind=4:=of_decide_eq_false (by assumption)
    conv=>whnf
    refine ⟨(4,1,1,false,false,false,false),(by (refine qa_ ?_;refine Sel4.mk rfl rfl ?_ ?_<;>(repeat' first|exact True.intro|exact rfl|exact .inl rfl|exact .inr rfl|refine And.intro ?_ ?_|fail))),?_⟩
    unfold descR
    rw [if_pos (by omega)]
    simp [h1,h2,h3,h4,h5]
   ·have h4:N[i].kind=4:=of_decide_eq_true (by assumption)
    conv=>whnf
    refine ⟨N[i].how,N[i].c,rfl,?_⟩
    conv=>whnf
    refine ⟨(checkJoin N[i].how N[i].c,1,5,false,false,true,true),(by (refine qa_ ?_;refine Sel4.mk rfl rfl ?_ ?_<;>(repeat' first|exact True.intro|exact rfl|exact .inl rfl|exact .inr rfl|refine And.intro ?_ ?_|fail))),?_⟩
    simp [descR,errN,h4]
   ·have h3:N[i].kind=3:=of_decide_eq_true (by assumption)
    conv=>whnf
    refine ⟨N[i].c,rfl,?_⟩
    conv=>whnf
    refine ⟨(checkCmd N[i].c,1,1,false,false,true,false),(by (refine qa_ ?_;refine Sel4.mk rfl rfl ?_ ?_<;>(repeat' first|exact True.intro|exact rfl|exact .inl rfl|exact .inr rfl|refine And.intro ?_ ?_|fail))),?_⟩
    simp [descR,errN,h3]
   ·have h2:N[i].kind=2:=of_decide_eq_true (by assumption)
    have w1:¬ N[i].wide<1:=of_decide_eq_false (by assumption)
    have w2:¬ 5<N[i].wide:=of_decide_eq_false (by assumption)
    conv=>whnf
    refine ⟨(0,1,1,false,true,false,false),(by (refine qa_ ?_;refine Sel4.mk rfl rfl ?_ ?_<;>(repeat' first|exact True.intro|exact rfl|exact .inl rfl|exact .inr rfl|refine And.intro ?_ ?_|fail))),?_⟩
    simp [descR,errN,h2,w1,w2]
   ·have h2:N[i].kind=2:=of_decide_eq_true (by assumption)
    have w2:5<N[i].wide:=of_decide_eq_true (by assumption)
    conv=>whnf
    refine ⟨(3,1,1,false,true,false,false),(by (refine qa_ ?_;refine Sel4.mk rfl rfl ?_ ?_<;>(repeat' first|exact True.intro|exact rfl|exact .inl rfl|exact .inr rfl|refine And.intro ?_ ?_|fail))),?_⟩
    simp [descR,errN,h2,w2]
   ·have h2:N[i].kind=2:=of_decide_eq_true (by assumption)
    have w2:N[i].wide<1:=of_decide_eq_true (by assumption)
    conv=>whnf
    refine ⟨(3,1,1,false,true,false,false),(by (refine qa_ ?_;refine Sel4.mk rfl rfl ?_ ?_<;>(repeat' first|exact True.intro|exact rfl|exact .inl rfl|exact .inr rfl|refine And.intro ?_ ?_|fail))),?_⟩
    simp [descR,errN,h2,w2]
   ·have h5:N[i].kind=5:=of_decide_eq_true (by assumption)
    conv=>whnf
    refine ⟨N[i].file,rfl,?_⟩
    repeat' first|(refine fun (b:Bool) hb=>?_;cases b<;>first|exact absurd hb (by decide)|exact nfl hb|exact nfr hb|skip)|fail
    all_goals conv=>whnf
    ·have hw:isWord N[i].file=true:=by simpa using (by assumption:(!isWord N[i].file)=false)
     refine ⟨(0,1,1,true,false,false,false),(by (refine qa_ ?_;refine Sel4.mk rfl rfl ?_ ?_<;>(repeat' first|exact True.intro|exact rfl|exact .inl rfl|exact .inr rfl|refine And.intro ?_ ?_|fail))),?_⟩
     simp [descR,errN,h5,hw]
    ·have hw:isWord N[i].file=false:=by simpa using (by assumption:(!isWord N[i].file)=true)
     refine ⟨(1,1,1,true,false,false,false),(by (refine qa_ ?_;refine Sel4.mk rfl rfl ?_ ?_<;>(repeat' first|exact True.intro|exact rfl|exact .inl rfl|exact .inr rfl|refine And.intro ?_ ?_|fail))),?_⟩
     simp [descR,errN,h5,hw]
   ·have h5:N[i].kind=1:=of_decide_eq_true (by assumption)
    conv=>whnf
    refine ⟨N[i].file,rfl,?_⟩
    repeat' first|(refine fun (b:Bool) hb=>?_;cases b<;>first|exact absurd hb (by decide)|exact nfl hb|exact nfr hb|skip)|fail
    all_goals conv=>whnf
    ·have hw:isWord N[i].file=true:=by simpa using (by assumption:(!isWord N[i].file)=false)
     refine ⟨(0,0,0,true,false,false,false),(by (refine qa_ ?_;refine Sel4.mk rfl rfl ?_ ?_<;>(repeat' first|exact True.intro|exact rfl|exact .inl rfl|exact .inr rfl|refine And.intro ?_ ?_|fail))),?_⟩
     simp [descR,errN,h5,hw]
    ·have hw:isWord N[i].file=false:=by simpa using (by assumption:(!isWord N[i].file)=true)
     refine ⟨(1,0,0,true,false,false,false),(by (refine qa_ ?_;refine Sel4.mk rfl rfl ?_ ?_<;>(repeat' first|exact True.intro|exact rfl|exact .inl rfl|exact .inr rfl|refine And.intro ?_ ?_|fail))),?_⟩
     simp [descR,errN,h5,hw]
  ·have hcr:=qqw_ N[i]
   rw [←hs] at hcr
   obtain ⟨e,le,mo,bf,bw,bc,bh⟩:=s
   obtain ⟨r1,r2,r3⟩:=hcr
   dsimp only [rightR] at r1 r2 r3
   rw [qn7_ hlt] at hgo
   repeat' first|(refine fun (b:Bool) hb=>?_;cases b<;>first|exact absurd hb (by decide)|exact nfl hb|exact nfr hb|skip)|fail
   rotate_left
   ·have he:e≠0:=by simpa using (by assumption:(!decide ((e,le,mo,bf,bw,bc,bh).1=0))=true)
    rw [if_pos (by rw [r1 he];exact he),r1 he] at hgo
    conv=>whnf
    exact hK _ (congrArg (V.int .i64) hgo)
   have he:e=0:=by simpa using (by assumption:(!decide ((e,le,mo,bf,bw,bc,bh).1=0))=false)
   replace r2:=r2 he
   replace r3:=r3 he
   clear r1
   conv=>whnf
   refine qd_ [1,3,4,5,25,26,27] (σ:=Bool) (fun b=>[(117,.bool b)]) (fun _=>[.box [.sl nodeV N],.mp 47 4 .pair V.lit u,.box (nodeV N[i]).cells]) (fun b=>checkN N[i]=if b=true then 4 else 0) ?_
   conv=>whnf
   refine ⟨?_,fun b hb=>?_⟩
   ·have hz:(N[i].c=zCmd)↔(N[i].c.kind=0∧N[i].c.word=[]∧N[i].c.n=0) := by
     obtain ⟨k1,k2,k3⟩:Gp.Cmd:=N[i].c
     simp [zCmd]
    rw [hz] at r2 r3
    repeat' first|(refine fun (b:Bool) hb=>?_;cases b<;>first|exact absurd hb (by decide)|exact nfl hb|exact nfr hb|skip)|(refine fun (hl:_≤MAXL)=>?_)|fail
    all_goals (conv=>whnf)
    all_goals (first|(refine ⟨!decide (N[i].how=0),?_,?_⟩;focus ((refine qa_ ?_;refine Sel4.mk rfl rfl ?_ ?_<;>(repeat' first|exact True.intro|exact rfl|exact .inl rfl|exact .inr rfl|refine And.intro ?_ ?_|fail));done))|skip)
    all_goals (first|(refine ⟨true,?_,?_⟩;focus ((refine qa_ ?_;refine Sel4.mk rfl rfl ?_ ?_<;>(repeat' first|exact True.intro|exact rfl|exact .inl rfl|exact .inr rfl|refine And.intro ?_ ?_|fail));done))|skip)
    all_goals (first|(refine ⟨false,?_,?_⟩;focus ((refine qa_ ?_;refine Sel4.mk rfl rfl ?_ ?_<;>(repeat' first|exact True.intro|exact rfl|exact .inl rfl|exact .inr rfl|refine And.intro ?_ ?_|fail));done))|skip)
    all_goals clear hK hgo hs
    all_goals (first|(simp_all;done)|(simp_all;grind)|grind)
   ·cases b with
    | true =>
     have hc:checkN N[i]=4:=hb
     rw [if_pos (by rw [hc];decide),hc] at hgo
     repeat' first|(refine fun (b:Bool) hb=>?_;cases b<;>first|exact absurd hb (by decide)|exact nfl hb|exact nfr hb|skip)|fail
     conv=>whnf
     exact hK _ (congrArg (V.int .i64) hgo)
    | false =>
     have hcn:checkN N[i]=0:=hb
     rw [if_neg (fun h=>h hcn)] at hgo
     repeat' first|(refine fun (b:Bool) hb=>?_;cases b<;>first|exact absurd hb (by decide)|exact nfl hb|exact nfr hb|skip)|(refine fun (hl:_≤MAXL)=>?_)|fail
     conv=>whnf
     refine qb_ [1,3,4,5,25,26,27,119,120] (σ:=Nat × Ents) (fun s=>[(121,.int .i64 s.1)]) (fun s=>[.box [.sl nodeV N],.mp 47 4 .pair V.lit s.2,.box (nodeV N[i]).cells]) (fun s=>s.1≤N[i].ins.length∧portsGo N i (N[i].ins.drop s.1) s.2=portsGo N i N[i].ins u) (fun s=>N[i].ins.length-s.1) (0,u) ?_
     conv=>whnf
     refine ⟨(by (refine qa_ ?_;refine Sel4.mk rfl rfl ?_ ?_<;>(repeat' first|exact True.intro|exact rfl|exact .inl rfl|exact .inr rfl|refine And.intro ?_ ?_|fail))),⟨Nat.zero_le _,rfl⟩,fun s hs=>?_⟩
     obtain ⟨j,v⟩:=s
     obtain ⟨hj,hpg⟩:=hs
     dsimp only at hj hpg
     repeat' first|(refine fun (b:Bool) hb=>?_;cases b<;>first|exact absurd hb (by decide)|exact nfl hb|exact nfr hb|skip)|(refine fun (hl:_≤MAXL)=>?_)|refine And.intro (a:=I64 _) ?_ ?_|refine ⟨_,rfl,?_,rfl,?_⟩|fail
     ·show I64 ((N.length:Int)-1)
      unfold I64;omega
     ·show I64 ((i:Int)+1)
      unfold I64;omega
     ·have hge:¬ (j:Int)<(N[i].ins.length:Int):=of_decide_eq_false (by assumption)
      have h5:=(by assumption:(!decide ((i:Int)=(N.length:Int)-1) == decide (N[i].kind=5))=false)
      have h6:decide (N[i].kind=5)=decide ((i:Int)=(N.length:Int)-1):=by
       have:decide ((i:Int)=(N.length:Int)-1)=decide (N[i].kind=5):=by simpa using h5
       exact this.symm
      rw [List.drop_eq_nil_of_le (by omega),portsGo] at hpg
      rw [←hpg,if_neg (fun h=>h rfl),if_neg (fun h=>h h6)] at hgo
      conv=>whnf
      exact ⟨(i+1,v),(by (refine qa_ ?_;refine Sel4.mk rfl rfl ?_ ?_<;>(repeat' first|exact True.intro|exact rfl|exact .inl rfl|exact .inr rfl|refine And.intro ?_ ?_|fail))),⟨hlt,hgo,fun a h h2=>by
       rcases Nat.lt_or_ge a i with h3|h3
       ·exact hck a h h3
       ·obtain rfl:a=i:=by have:a<i+1:=h2;omega
        exact hcn⟩,by show N.length-(i+1)<N.length-i;omega⟩
     ·have hge:¬ (j:Int)<(N[i].ins.length:Int):=of_decide_eq_false (by assumption)
      have h5:=(by assumption:(!decide ((i:Int)=(N.length:Int)-1) == decide (N[i].kind=5))=true)
      have h6:¬ decide (N[i].kind=5)=decide ((i:Int)=(N.length:Int)-1):=by
       have:¬ decide ((i:Int)=(N.length:Int)-1)=decide (N[i].kind=5):=by simpa using h5
       exact fun h=>this h.symm
      rw [List.drop_eq_nil_of_le (by omega),portsGo] at hpg
      rw [←hpg,if_neg (fun h=>h rfl),if_pos h6] at hgo
      conv=>whnf
      refine hK _ (congrArg (V.int .i64) ?_)
      exact hgo
     ·have h:(j:Int)<(N[i].ins.length:Int):=of_decide_eq_true (by assumption)
      show j<N[i].ins.length
      omega
     have hjl:j<N[i].ins.length:=by
      have h:(j:Int)<(N[i].ins.length:Int):=of_decide_eq_true (by assumption)
      omega
     rw [qbw_ hjl] at hpg
     obtain ⟨p,hp⟩:∃ p,N[i].ins[j]=p:=⟨_,rfl⟩
     rw [hp] at hpg
     conv=>whnf
     refine qd_ [1,3,4,5,14,25,26,27,119,120,121] (σ:=Unit) (fun _=>[]) (fun _=>[.box [.sl nodeV N],.mp 47 4 .pair V.lit v,.box (nodeV N[i]).cells,.box [.int .i64 p.node,.int .i64 p.out]]) (fun _=>¬ (p.node<0∨(i:Int)≤p.node∨p.out<0∨outsN (N.getD p.node.toNat ⟨0,[],zCmd,0,0,[]⟩)≤p.out)) ?_
     conv=>whnf
     refine ⟨?_,fun _ hok=>?_⟩
     ·rw [hp]
      repeat' first|exact True.intro|(refine fun (b:Bool) hb=>?_;cases b<;>first|exact absurd hb (by decide)|exact nfl hb|exact nfr hb|skip)|refine ⟨_,⟨rfl,rfl⟩,?_⟩|refine And.intro (a:=chkPast _ _ _ _ _ _ _ _) ?_ ?_|fail
      ·have h1:¬ p.node<0:=of_decide_eq_false (by assumption)
       have h2:¬ (i:Int)≤p.node:=of_decide_eq_false (by assumption)
       have h3:¬ p.out<0:=of_decide_eq_false (by assumption)
       obtain ⟨k,hk⟩:∃ k:Nat,p.node=k:=⟨p.node.toNat,by omega⟩
       have hkN:k<N.length:=by omega
       have hgk:N.getD p.node.toNat ⟨0,[],zCmd,0,0,[]⟩=N[k]:=by
        rw [hk,Int.toNat_natCast,List.getD_eq_getElem?_getD,List.getElem?_eq_getElem hkN]
        rfl
       conv=>whnf
       refine ⟨_,⟨k,hk,hkN,rfl,rfl,rfl⟩,?_⟩
       repeat' first|refine ⟨_,⟨rfl,rfl⟩,?_⟩|fail
       apply Exists.intro
       apply And.intro
       ·refine ⟨N[k],rfl,?_⟩
        exact ⟨rfl,rfl⟩
       repeat' first|(refine fun (b:Bool) hb=>?_;cases b<;>first|exact absurd hb (by decide)|exact nfl hb|exact nfr hb|skip)|refine ⟨_,⟨rfl,rfl⟩,?_⟩|fail
       ·have h4:¬ outsN N[k]≤p.out:=of_decide_eq_false (by assumption)
        conv=>whnf
        exact ⟨(),(by (refine qa_ ?_;refine Sel4.mk rfl rfl ?_ ?_<;>(repeat' first|exact True.intro|exact rfl|exact .inl rfl|exact .inr rfl|refine And.intro ?_ ?_|fail))),by rw [hgk];omega⟩
       ·have h4:outsN N[k]≤p.out:=of_decide_eq_true (by assumption)
        rw [hgk,if_pos (by omega)] at hpg
        rw [←hpg,if_pos (show (5:Int)≠0 by decide)] at hgo
        conv=>whnf
        refine hK _ (congrArg (V.int .i64) ?_)
        exact hgo
      ·have h4:p.out<0:=of_decide_eq_true (by assumption)
       rw [if_pos (by omega)] at hpg
       rw [←hpg,if_pos (show (5:Int)≠0 by decide)] at hgo
       conv=>whnf
       refine hK _ (congrArg (V.int .i64) ?_)
       exact hgo
      ·have h4:(i:Int)≤p.node:=of_decide_eq_true (by assumption)
       rw [if_pos (by omega)] at hpg
       rw [←hpg,if_pos (show (5:Int)≠0 by decide)] at hgo
       conv=>whnf
       refine hK _ (congrArg (V.int .i64) ?_)
       exact hgo
      ·have h4:p.node<0:=of_decide_eq_true (by assumption)
       rw [if_pos (by omega)] at hpg
       rw [←hpg,if_pos (show (5:Int)≠0 by decide)] at hgo
       conv=>whnf
       refine hK _ (congrArg (V.int .i64) ?_)
       exact hgo
     ·rw [if_neg hok] at hpg
      obtain ⟨q,hq⟩:∃ q,mget false v [p.node,p.out]=q:=⟨_,rfl⟩
      rw [hq] at hpg
      conv=>whnf
      refine ⟨false,rfl,?_⟩
      conv =>
       arg 1
       rw [hq]
      cases q
      ·rw [if_neg (by decide)] at hpg
       repeat' first|refine And.intro (a:=I64 _) ?_ ?_|refine ⟨_,rfl,?_,rfl,?_⟩|fail
       ·rfl
       ·have hm:=(by assumption:N[i].ins.length≤MAXL)
        unfold MAXL at hm
        unfold I64;(try dsimp only);omega
       conv=>whnf
       exact ⟨(j+1,mput v [p.node,p.out] true),(by (refine qa_ ?_;refine Sel4.mk rfl rfl ?_ ?_<;>(repeat' first|exact True.intro|exact rfl|exact .inl rfl|exact .inr rfl|refine And.intro ?_ ?_|fail))),⟨hjl,hpg⟩,by show N[i].ins.length-(j+1)<N[i].ins.length-j;omega⟩
      ·rw [if_pos rfl] at hpg
       rw [←hpg,if_pos (show (6:Int)≠0 by decide)] at hgo
       conv=>whnf
       refine hK _ (congrArg (V.int .i64) ?_)
       exact hgo
 ·have hge:¬ (i:Int)<(N.length:Int):=of_decide_eq_false (by assumption)
  have h0:¬ (N.length:Int)=0:=of_decide_eq_false (by assumption)
  obtain rfl:i=N.length:=by omega
  have hend:nodesR N 0 N []=if (allK N N.length).all (fun x=>mget false u x)=true then 0 else 4:=by
   rw [←hgo,List.drop_eq_nil_of_le (Nat.le_refl _),nodesR,if_neg (by omega)]
  have hgD:∀ a (h:a<N.length),N.getD a dN=N[a]:=fun a h=>by
   rw [List.getD_eq_getElem?_getD,List.getElem?_eq_getElem h];rfl
  conv=>whnf
  refine qb_ [3,174,175] (σ:=Nat) (fun s=>[(176,.int .i64 s)]) (fun s=>[.box [.sl nodeV N],.mp 47 4 .pair V.lit u]) (fun s=>s≤N.length∧∀ a o:Nat,a<s→(o:Int)<outsN (N.getD a dN)→mget false u [(a:Int),(o:Int)]=true) (fun s=>N.length-s) 0 ?_
  conv=>whnf
  refine ⟨(by (refine qa_ ?_;refine Sel4.mk rfl rfl ?_ ?_<;>(repeat' first|exact True.intro|exact rfl|exact .inl rfl|exact .inr rfl|refine And.intro ?_ ?_|fail))),⟨Nat.zero_le _,fun a o h=>by omega⟩,fun s hs=>?_⟩
  obtain ⟨hsl,hal⟩:=hs
  repeat' first|(refine fun (b:Bool) hb=>?_;cases b<;>first|exact absurd hb (by decide)|exact nfl hb|exact nfr hb|skip)|refine ⟨_,rfl,?_,rfl,?_⟩|fail
  ·have hge:¬ (s:Int)<(N.length:Int):=of_decide_eq_false (by assumption)
   conv=>whnf
   refine hK _ (congrArg (V.int .i64) ?_)
   rw [hend,if_pos (List.all_eq_true.2 fun x hx=>?_)]
   obtain ⟨a,o,rfl,h1,h2⟩:=mem_allK.1 hx
   exact hal a o (by omega) h2
  ·have h:(s:Int)<(N.length:Int):=of_decide_eq_true (by assumption)
   show s<N.length
   omega
  have hlt:s<N.length:=by
   have h:(s:Int)<(N.length:Int):=of_decide_eq_true (by assumption)
   omega
  have hcn:=hck s hlt hlt
  obtain ⟨ho1,ho2⟩:=qy_ hcn
  conv=>whnf
  refine ⟨N[s],rfl,?_⟩
  skip
  conv=>whnf
  refine qb_ [3,16,174,175,176,182] (σ:=Nat) (fun s=>[(183,.int .i64 s)]) (fun _=>[.box [.sl nodeV N],.mp 47 4 .pair V.lit u,.box (nodeV N[s]).cells]) (fun k=>(k:Int)≤outsN N[s]∧∀ o:Nat,o<k→mget false u [(s:Int),(o:Int)]=true) (fun k=>(outsN N[s]).toNat-k) 0 ?_
  conv=>whnf
  refine ⟨(by (refine qa_ ?_;refine Sel4.mk rfl rfl ?_ ?_<;>(repeat' first|exact True.intro|exact rfl|exact .inl rfl|exact .inr rfl|refine And.intro ?_ ?_|fail))),⟨by simpa using ho1,fun o h=>by omega⟩,fun k hk=>?_⟩
  obtain ⟨hkl,hks⟩:=hk
  repeat' first|(refine fun (b:Bool) hb=>?_;cases b<;>first|exact absurd hb (by decide)|exact nfl hb|exact nfr hb|skip)|refine And.intro (a:=I64 _) ?_ ?_|fail
  ·show I64 ((s:Int)+1)
   unfold I64;omega
  ·have hge:¬ (k:Int)<outsN N[s]:=of_decide_eq_false (by assumption)
   conv=>whnf
   refine ⟨s+1,(by (refine qa_ ?_;refine Sel4.mk rfl rfl ?_ ?_<;>(repeat' first|exact True.intro|exact rfl|exact .inl rfl|exact .inr rfl|refine And.intro ?_ ?_|fail))),⟨hlt,fun a o ha ho=>?_⟩,by omega⟩
   rcases Nat.lt_or_ge a s with h3|h3
   ·exact hal a o h3 ho
   ·obtain rfl:a=s:=by omega
    rw [hgD a hlt] at ho
    exact hks o (by omega)
  have hlk:(k:Int)<outsN N[s]:=of_decide_eq_true (by assumption)
  obtain ⟨q,hq⟩:∃ q,mget false u [(s:Int),(k:Int)]=q:=⟨_,rfl⟩
  conv=>whnf
  refine ⟨false,rfl,?_⟩
  conv =>
   arg 1
   rw [hq]
  cases q
  ·skip
   conv=>whnf
   refine hK _ (congrArg (V.int .i64) ?_)
   rw [hend,if_neg (fun h=>?_)]
   have:=List.all_eq_true.1 h _ (mem_allK.2 ⟨s,k,rfl,hlt,by rw [hgD s hlt];exact hlk⟩)
   rw [hq] at this
   cases this
  ·repeat' first|refine And.intro (a:=I64 _) ?_ ?_|fail
   ·unfold I64;omega
   conv=>whnf
   refine ⟨k+1,(by (refine qa_ ?_;refine Sel4.mk rfl rfl ?_ ?_<;>(repeat' first|exact True.intro|exact rfl|exact .inl rfl|exact .inr rfl|refine And.intro ?_ ?_|fail))),⟨by omega,fun o ho=>?_⟩,by omega⟩
   rcases Nat.lt_or_ge o k with h3|h3
   ·exact hks o h3
   ·obtain rfl:o=k:=by omega
    exact hq
end Gv
