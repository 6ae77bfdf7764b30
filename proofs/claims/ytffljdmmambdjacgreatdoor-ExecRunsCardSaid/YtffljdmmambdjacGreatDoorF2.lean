/- What functions of the program come to, part 2: in every world; the conditions stand in each theorem. -/
import Derived.Test.YtffljdmmambdjacGreatDoorF1
set_option linter.unusedVariables false
set_option linter.unusedSectionVars false
set_option linter.unusedSimpArgs false
set_option maxHeartbeats 16000000
open Go Go.Proofs Gw Gp
namespace Gv
variable [Glob] [Laid] [Nums] [Errs]
def qra_ (m:MachS) (i:Nat):Prop:=(∀ q∈m.pipes,qi_ q=0)∧0≤(pr m i).pos∧((pr m i).read=true∨nI m.g i=0∨(pr m i).pos<(nI m.g i:Int))∧(pr m i).got.flatten.length+8≤400000000∧m.sunk.length≤500000000
theorem qux_ (p:PipeS):((xa_ p).2=0→(xa_ p).1=vm_ p)∧((xa_ p).2≠0→vm_ p=p):=by
 unfold xa_ vm_
 rw [z9_]
 by_cases hc:qi_ p=0
 ·rw [if_neg (by rw [hc];decide),if_pos hc]
  cases hcl:p.closed with
  | true =>
   rw [if_pos rfl]
   refine ⟨fun h=>absurd h (by decide),fun _=>?_⟩
   obtain ⟨b,r,c,s⟩:=p
   dsimp only at hcl
   rw [hcl]
  | false =>
   rw [if_neg (by decide)]
   exact ⟨fun _=>rfl,fun h=>absurd rfl h⟩
 ·rw [if_pos hc,if_neg hc]
  exact ⟨fun h=>absurd h hc,fun _=>rfl⟩
theorem qj7_ {α:Type} (l:List α) (r:Nat) (d : α) (h:r<l.length):l.set r (l.getD r d)=l:=by
 rw [List.getD_eq_getElem?_getD,List.getElem?_eq_getElem h]
 simp
theorem qh8_ {m:MachS} {i k:Nat} (ho:(pr m i).over=false) (hk:k<(pr m i).out.length) (hc:canW m i k=true) (hn:∀ j,j<k→canW m i j=false):qv_ m i=(doW m i k,0):=by
 have ha:(pr m i).out.any (fun b=>decide (b≠[]))=true:=by
  rw [List.any_eq_true]
  refine ⟨outK m i k,?_,?_⟩
  ·unfold outK
   rw [List.getD_eq_getElem?_getD,List.getElem?_eq_getElem hk]
   exact List.getElem_mem hk
  ·unfold canW at hc
   simp only [Bool.and_eq_true] at hc
   exact hc.1.1.1
 have hf:(List.range (pr m i).out.length).find? (canW m i)=some k:=by
  rw [List.find?_range_eq_some]
  refine ⟨hc,by simpa using hk,fun j hj=>by rw [hn j hj];rfl⟩
 unfold qv_
 rw [if_neg (by rw [ho];decide),if_pos ha,hf]
theorem qh7_ {m:MachS} {i:Nat} (ho:(pr m i).over=false) (ha:(pr m i).out.any (fun b=>decide (b≠[]))=true) (hn:∀ k,k<(pr m i).out.length→canW m i k=false):qv_ m i=(m,8):=by
 have hf:(List.range (pr m i).out.length).find? (canW m i)=none:=by
  rw [List.find?_eq_none]
  intro k hk
  rw [hn k (List.mem_range.1 hk)]
  decide
 unfold qv_
 rw [if_neg (by rw [ho];decide),if_pos ha,hf]
theorem q7d_:qb_ Tryz.prog 55=true:=by kernel_rfl
def zbm_:qn_:=fun args rows K=>zb5_ qra_ args rows K
noncomputable def q23_:List (Nat × Spec):=[(122,qfu_),(123,qye_)]
noncomputable def q22_:List (Nat × FnI):=[(119,{fn:=Tryz.f119,hooks:=[],draws:=[]}),(161,{fn:=Tryz.f161,hooks:=[],draws:=[]}),(120,{fn:=Tryz.f120,hooks:=[],draws:=[]}),(121,{ fn:=Tryz.f121,spec:=some qtu_ }),(124,{ fn:=Tryz.f124,spec:=some q13_ })]
noncomputable def qq8_:List (Nat × qn_):=[]
theorem zbl_:EnvOK ⟨Tryz.prog,tys,q23_,q22_,qq8_,[]⟩:=qs_ qt_ tys0 (.cons qhz_ qh0_ (.cons q4m_ q4n_ .nil)) (.cons (by kernel_rfl) ⟨Tryz.func119,by kernel_rfl,by kernel_rfl⟩ (.cons (by kernel_rfl) ⟨Tryz.func161,by kernel_rfl,by kernel_rfl⟩ (.cons (by kernel_rfl) ⟨Tryz.func120,by kernel_rfl,by kernel_rfl⟩ (.told qn0_ rfl qrn_ (.told qtb_ rfl qwi_ .nil))))) .nil rfl
theorem qw5_:q1_ Tryz.prog 55 zbm_:=by
 refine xm_ zbl_ 6 q7d_ (fi:={fn:=Tryz.f55,hooks:=[18],draws:=[(15,[0,1,3,7,0,0,63,127])]}) ⟨Tryz.func55,by kernel_rfl,by kernel_rfl⟩ ?_
 rintro args rows K ⟨m,i,els,rfl,h,⟨hq,hp0,hp1,hsz,hsk⟩,rfl,hK⟩
 have hei:(els.set i (q6_ (pr m i)))[i]?=some (q6_ (pr m i)):=List.getElem?_set_self (by rw [h.nl];exact h.lt)
 have hel:(els.set i (q6_ (pr m i))).length=m.g.length:=by rw [List.length_set,h.nl]
 have hpe:=h.pe
 have hgf:=gf_of h.g
 have hmp:i<m.p.length:=by rw [h.np];exact h.lt
 unfold focR
 repeat' first|refine ⟨rfl,?_⟩|fail
 refine ⟨i,rfl,by rw [hel];exact h.lt,?_⟩
 conv=>whnf
 refine ⟨_,hei,?_⟩
 repeat' first|(refine fun (b:Bool) hb=>?_;cases b<;>first|exact absurd hb (by decide)|exact nfl hb|exact nfr hb|skip)|fail
 rotate_left
 ·have ho:(pr m i).over=true:=by assumption
  conv=>whnf
  have hfin:=hK []
  unfold qv_ at hfin
  rw [if_pos ho] at hfin
  exact hfin
 have ho:(pr m i).over=false:=by assumption
 conv=>whnf
 refine ⟨_,hei,?_⟩
 repeat' first|(refine fun (hl:_≤MAXL)=>?_)|fail
 conv=>whnf
 refine qg_ [0,1,7] (σ:=Nat) (fun k=>[(8,.int .i64 k)]) (fun _=>[.box [.sl qh_ m.g,.sl qq_ m.f,.own 1,.own 2,.sl qd_ m.sunk],.row 4 (m.pipes.map qk_),.rowq 5 (els.set i (q6_ (pr m i))),.row 1 ((pr m i).got.map blV),.row 1 ((pr m i).out.map blV)]) (fun k=>k≤(pr m i).out.length∧∀ j,j<k→outK m i j=[]) (fun k=>(pr m i).out.length-k) 0 ?_
 conv=>whnf
 refine ⟨(by (refine qf_ [some 0,some 1,some 2,some 3,some 4] rfl rfl ?_ ?_<;>(repeat' (first|exact qw_ hpe rfl rfl|exact True.intro|exact rfl|exact Or.inl rfl|exact Or.inr rfl|refine And.intro ?_ ?_|fail)))),⟨Nat.zero_le _,fun j hj=>by omega⟩,fun k hk=>?_⟩
 obtain ⟨hk,hno⟩:=hk
 repeat' first|(refine fun (b:Bool) hb=>?_;cases b<;>first|exact absurd hb (by decide)|exact nfl hb|exact nfr hb|skip)|refine ⟨rfl,?_⟩|fail
 ·have hkl:k=(pr m i).out.length := by
   have h:=of_decide_eq_false (by assumption:decide ((k:Int)<(((pr m i).out.map blV).length:Int))=false)
   rw [List.length_map] at h
   omega
  subst hkl
  have hany:¬ (pr m i).out.any (fun b=>decide (b≠[]))=true:=fun e=>by
   rw [List.any_eq_true] at e
   obtain ⟨b,hb,hd⟩:=e
   obtain ⟨j,hj,rfl⟩:=List.getElem_of_mem hb
   have:=hno j hj
   unfold outK at this
   rw [List.getD_eq_getElem?_getD,List.getElem?_eq_getElem hj] at this
   exact of_decide_eq_true hd this
  conv=>whnf
  refine ⟨_,hei,?_⟩
  repeat' first|(refine fun (b:Bool) hb=>?_;cases b<;>first|exact absurd hb (by decide)|exact nfl hb|exact nfr hb|skip)|fail
  ·
   have hr:(pr m i).read=false:=by assumption
   have hp1:=hp1.resolve_left (by rw [hr];decide)
   have hst:∀ o,wx_ m i=o→qv_ m i=match o with|some m'=>(m',0)|none=>(m,8):=fun o ho2=>by
    unfold qv_
    rw [if_neg (by rw [ho];decide),if_neg hany,if_neg (by rw [hr];decide),ho2]
    cases o<;>rfl
   conv=>whnf
   refine ⟨m,i,els,rfl,h,⟨hq,hp0,hp1,hsz,hsk⟩,rfl,fun m' ex hm=>?_,fun ex hm=>?_⟩
   ·conv=>whnf
    have hfin:=hK ex
    rw [hst _ hm] at hfin
    exact hfin
   ·conv=>whnf
    have hfin:=hK ex
    rw [hst _ hm] at hfin
    exact hfin
  have hr:(pr m i).read=true:=by assumption
  conv=>whnf
  refine ⟨_,hei,?_⟩
  repeat' first|(refine fun (hl:_≤MAXL)=>?_)|fail
  conv=>whnf
  refine qg_ [0,1,5,37] (σ:=Nat) (fun k=>[(38,.int .i64 k)]) (fun k=>[.box [.sl qh_ m.g,.sl qq_ m.f,.own 1,.own 2,.sl qd_ m.sunk],.row 4 ((qy_ m i k).map qk_),.rowq 5 (els.set i (q6_ (pr m i))),.row 1 ((pr m i).got.map blV),.row 1 ((pr m i).out.map blV)]) (fun k=>k≤(pr m i).out.length) (fun k=>(pr m i).out.length-k) 0 ?_
  conv=>whnf
  refine ⟨(by (refine qf_ [some 0,some 1,some 2,some 3,some 4] rfl rfl ?_ ?_<;>(repeat' (first|exact qw_ hpe rfl rfl|exact True.intro|exact rfl|exact Or.inl rfl|exact Or.inr rfl|refine And.intro ?_ ?_|fail)))),Nat.zero_le _,fun k hk=>?_⟩
  repeat' first|(refine fun (b:Bool) hb=>?_;cases b<;>first|exact absurd hb (by decide)|exact nfl hb|exact nfr hb|skip)|fail
  ·have hkl:k=(pr m i).out.length := by
    have h:=of_decide_eq_false (by assumption:decide ((k:Int)<(((pr m i).out.map blV).length:Int))=false)
    rw [List.length_map] at h
    omega
   subst hkl
   have hs:qv_ m i=(wp_ m i,0):=by
    unfold qv_
    rw [if_neg (by rw [ho];decide),if_neg hany,if_pos hr]
   have hf:focR (wp_ m i) i els=[.box [.sl qh_ m.g,.sl qq_ m.f,.own 1,.own 2,.sl qd_ m.sunk],.row 4 ((qy_ m i (pr m i).out.length).map qk_),.rowq 5 (els.set i (q6_ ⟨(pr m i).got,(pr m i).pos,(pr m i).out,(pr m i).read,true⟩)),.row 1 ((pr m i).got.map blV),.row 1 ((pr m i).out.map blV)]:=xj_ hmp
   conv=>whnf
   refine ql_ [] (σ:=Unit) (fun _=>[]) (fun _=>[.box [.sl qh_ m.g,.sl qq_ m.f,.own 1,.own 2,.sl qd_ m.sunk],.row 4 ((qy_ m i (pr m i).out.length).map qk_),.rowq 5 (els.set i (q6_ ⟨(pr m i).got,(pr m i).pos,(pr m i).out,(pr m i).read,true⟩)),.row 1 ((pr m i).got.map blV),.row 1 ((pr m i).out.map blV)]) (fun _=>True) ?_
   conv=>whnf
   refine ⟨?_,fun _ _=>?_⟩
   ·conv=>whnf
    refine ⟨_,hei,?_⟩
    conv=>whnf
    rw [List.set_set]
    refine ⟨(),?_,trivial⟩
    refine qf_ [some 0,some 1,some 2,some 3,some 4] rfl rfl ?_ ?_<;>(repeat' (first|exact qaw_ hpe ⟨rfl,rfl,rfl,rfl,Or.inr rfl,trivial⟩|exact True.intro|exact rfl|exact Or.inl rfl|exact Or.inr rfl|refine And.intro ?_ ?_|fail))
    all_goals done
   conv=>whnf
   have hfin:=hK []
   rw [hs] at hfin
   dsimp only at hfin
   rw [hf] at hfin
   exact hfin
  have hk2:k<(pr m i).out.length:=by
   have h:=of_decide_eq_true (by assumption:decide ((k:Int)<(((pr m i).out.map blV).length:Int))=true)
   rw [List.length_map] at h
   omega
  have hrl:=qs9_ h hk2
  have hlen:=v9_ m i k
  have hrq:rdr m i k<(qy_ m i k).length:=by rw [hlen,h.nq];exact hrl
  have hgq:((qy_ m i k).map qk_)[rdr m i k]?=some (qk_ ((qy_ m i k).getD (rdr m i k) zP)):=by
   rw [List.getElem?_map,List.getElem?_eq_getElem hrq,List.getD_eq_getElem?_getD,List.getElem?_eq_getElem hrq]
   rfl
  obtain ⟨c1,c2⟩:=qux_ ((qy_ m i k).getD (rdr m i k) zP)
  conv=>whnf
  refine ⟨m.g,⟨i,k⟩,rfl,z0_ h.g,?_⟩
  rw [show ye_ m.g ⟨(i:Int),(k:Int)⟩=rdr m i k from rfl,if_pos hrl]
  repeat' first|refine ⟨rfl,?_⟩|fail
  refine ⟨rdr m i k,rfl,by rw [List.length_map];exact hrq,?_⟩
  conv=>whnf
  refine ⟨_,hgq,?_⟩
  skip
  refine ⟨(qy_ m i k).getD (rdr m i k) zP,rfl,?_⟩
  repeat' first|exact True.intro|(refine fun (b:Bool) hb=>?_;cases b<;>first|exact absurd hb (by decide)|exact nfl hb|exact nfr hb|skip)|refine And.intro (a:=I64 _) ?_ ?_|refine ⟨_,⟨rfl,rfl⟩,?_⟩|refine And.intro (a:=qj_ _ _ _ _ _ _ _ _) ?_ ?_|fail
  ·have hM:((pr m i).out.map blV).length≤MAXL:=by assumption
   rw [List.length_map] at hM
   unfold I64;unfold MAXL at hM;omega
  ·have hne:=of_decide_eq_false (by assumption:decide ((xa_ ((qy_ m i k).getD (rdr m i k) zP)).2=0)=false)
   have hst:qy_ m i (k+1)=qy_ m i k:=by
    show (qy_ m i k).set (rdr m i k) (vm_ ((qy_ m i k).getD (rdr m i k) zP))=qy_ m i k
    rw [c2 hne,qj7_ _ _ _ hrq]
   refine ⟨k+1,?_,hk2,by omega⟩
   show Wk _ _ _ _ [.box [.sl qh_ m.g,.sl qq_ m.f,.own 1,.own 2,.sl qd_ m.sunk],.row 4 ((qy_ m i (k+1)).map qk_),.rowq 5 (els.set i (q6_ (pr m i))),.row 1 ((pr m i).got.map blV),.row 1 ((pr m i).out.map blV)]
   rw [hst]
   exact (by (refine qf_ [some 0,some 1,some 2,some 3,some 4] rfl rfl ?_ ?_<;>(repeat' (first|exact qw_ hpe rfl rfl|exact True.intro|exact rfl|exact Or.inl rfl|exact Or.inr rfl|refine And.intro ?_ ?_|fail))))
  have hne:=of_decide_eq_true (by assumption:decide ((xa_ ((qy_ m i k).getD (rdr m i k) zP)).2=0)=true)
  have hst:qy_ m i (k+1)=(qy_ m i k).set (rdr m i k) (xa_ ((qy_ m i k).getD (rdr m i k) zP)).1:=by
   rw [c1 hne];rfl
  conv=>whnf
  apply Exists.intro
  apply And.intro
  ·refine ⟨rfl,rdr m i k,rfl,by rw [List.length_map];exact hrq,?_⟩
   exact ⟨rfl,rfl⟩
  conv=>whnf
  refine ⟨trivial,?_⟩
  conv=>whnf
  apply Exists.intro
  apply Exists.intro
  apply And.intro
  ·conv=>whnf
   refine ⟨by rw [List.length_map];exact hrq,?_⟩
   exact ⟨rfl,rfl⟩
  conv=>whnf
  repeat' first|exact True.intro|refine And.intro (a:=I64 _) ?_ ?_|refine And.intro (a:=qx_ _ _ _ _ _ _) ?_ ?_|fail
  conv=>whnf
  skip
  ·have hM:((pr m i).out.map blV).length≤MAXL:=by assumption
   rw [List.length_map] at hM
   unfold MAXL at hM;(try unfold I64);omega
  refine ⟨k+1,?_,hk2,by omega⟩
  show Wk _ _ _ _ [.box [.sl qh_ m.g,.sl qq_ m.f,.own 1,.own 2,.sl qd_ m.sunk],.row 4 ((qy_ m i (k+1)).map qk_),.rowq 5 (els.set i (q6_ (pr m i))),.row 1 ((pr m i).got.map blV),.row 1 ((pr m i).out.map blV)]
  rw [hst,List.map_set]
  exact (by (refine qf_ [some 0,some 1,some 2,some 3,some 4] rfl rfl ?_ ?_<;>(repeat' (first|exact qw_ hpe rfl rfl|exact True.intro|exact rfl|exact Or.inl rfl|exact Or.inr rfl|refine And.intro ?_ ?_|fail))))
 ·have hk2:k<(pr m i).out.length := by
   have h:=of_decide_eq_true (by assumption:decide ((k:Int)<(((pr m i).out.map blV).length:Int))=true)
   rw [List.length_map] at h
   omega
  have hgk:((pr m i).out.map blV)[k]?=some (blV (outK m i k)):=by
   unfold outK
   rw [List.getElem?_map,List.getElem?_eq_getElem hk2,List.getD_eq_getElem?_getD,List.getElem?_eq_getElem hk2];rfl
  refine ⟨k,rfl,by rw [List.length_map];exact hk2,?_⟩
  conv=>whnf
  refine ⟨_,hgk,?_⟩
  repeat' first|(refine fun (b:Bool) hb=>?_;cases b<;>first|exact absurd hb (by decide)|exact nfl hb|exact nfr hb|skip)|(refine fun (hl:_≤MAXL)=>?_)|refine And.intro (a:=I64 _) ?_ ?_|fail
  ·have hM:((pr m i).out.map blV).length≤MAXL:=by assumption
   rw [List.length_map] at hM
   unfold I64;unfold MAXL at hM;omega
  ·have he:outK m i k=[] := by
    have h:=of_decide_eq_false (by assumption:decide (0<((outK m i k).length:Int))=false)
    exact List.length_eq_zero_iff.1 (by omega)
   refine ⟨k+1,(by (refine qf_ [some 0,some 1,some 2,some 3,some 4] rfl rfl ?_ ?_<;>(repeat' (first|exact qw_ hpe rfl rfl|exact True.intro|exact rfl|exact Or.inl rfl|exact Or.inr rfl|refine And.intro ?_ ?_|fail)))),⟨by omega,fun j hj=>?_⟩,by omega⟩
   rcases Nat.lt_or_ge j k with h2|h2
   ·exact hno j h2
   ·obtain rfl:j=k:=by omega
    exact he
  have hne:outK m i k≠[]:=by
   have h:=of_decide_eq_true (by assumption:decide (0<((outK m i k).length:Int))=true)
   intro e
   rw [e] at h
   exact absurd h (by decide)
  have hany:(pr m i).out.any (fun b=>decide (b≠[]))=true:=by
   rw [List.any_eq_true]
   refine ⟨outK m i k,?_,decide_eq_true hne⟩
   unfold outK
   rw [List.getD_eq_getElem?_getD,List.getElem?_eq_getElem hk2]
   exact List.getElem_mem hk2
  conv=>whnf
  refine ⟨m,i,els,rfl,h,rfl,fun j ex hj hc hn=>?_,fun hn ex=>?_⟩
  ·conv=>whnf
   have hfin:=hK ex
   rw [qh8_ ho hj hc hn] at hfin
   exact hfin
  ·conv=>whnf
   have hfin:=hK ex
   rw [qh7_ ho hany hn] at hfin
   exact hfin
end Gv
namespace Gv
variable [Glob] [Laid]
theorem qqf_:qb_ Tryz.prog 65=true:=by kernel_rfl
def qs0_:Spec:=fun args K=>∃ n:Gp.Node,args=[qh_ n]∧K (.int .i64 (zh_ n))
noncomputable def q57_:List (Nat × Spec):=[]
noncomputable def q56_:List (Nat × FnI):=[]
noncomputable def qv8_:List (Nat × qn_):=[]
theorem zdc_:EnvOK ⟨Tryz.prog,tys,q57_,q56_,qv8_,[]⟩:=qs_ qt_ tys0 .nil .nil .nil rfl
theorem qqg_:Pure Tryz.prog 65 qs0_:=by
 refine qp_ zdc_ 6 (fi:={fn:=Tryz.f65,hooks:=[],draws:=[]}) ⟨Tryz.func65,by kernel_rfl,by kernel_rfl⟩ ?_
 rintro _ K ⟨n,rfl,hK⟩
 replace hK:∀ r,r=.int .i64 (zh_ n)→K r:=fun r h=>h ▸ hK
 unfold zh_ at hK
 repeat' first|(refine fun (b:Bool) hb=>?_;cases b<;>first|exact absurd hb (by decide)|exact nfl hb|exact nfr hb|skip)|fail
 ·have h2:¬ n.kind=2:=of_decide_eq_false (by assumption)
  have h5:¬ n.kind=5:=of_decide_eq_false (by assumption)
  rw [if_neg h2,if_neg h5] at hK
  exact hK _ rfl
 ·have h2:¬ n.kind=2:=of_decide_eq_false (by assumption)
  have h5:n.kind=5:=of_decide_eq_true (by assumption)
  rw [if_neg h2,if_pos h5] at hK
  exact hK _ rfl
 ·have h2:n.kind=2:=of_decide_eq_true (by assumption)
  rw [if_pos h2] at hK
  exact hK _ rfl
end Gv
namespace Gv
variable [Glob] [Laid]
def lbV (l:List Bs):V:=.sl blV l
theorem qox_:qb_ Tryz.prog 156=true:=by kernel_rfl
def qg6_:Spec:=fun args K=>∃ a:List (List Bs),args=[.sl lbV a]∧a.flatten.length≤1000000000∧K (.sl blV a.flatten)
noncomputable def qls_:List (Nat × Spec):=[]
noncomputable def qlr_:List (Nat × FnI):=[(209,{fn:=Tryz.f209,hooks:=[],draws:=[]})]
noncomputable def qgl_:List (Nat × qn_):=[]
theorem quy_:EnvOK ⟨Tryz.prog,tys,qls_,qlr_,qgl_,[]⟩:=qs_ qt_ tys0 .nil (.cons (by kernel_rfl) ⟨Tryz.func209,by kernel_rfl,by kernel_rfl⟩ .nil) .nil rfl
theorem qoy_:Pure Tryz.prog 156 qg6_:=by
 refine qp_ quy_ 6 (fi:={fn:=Tryz.f156,hooks:=[10],draws:=[]}) ⟨Tryz.func156,by kernel_rfl,by kernel_rfl⟩ ?_
 rintro _ K ⟨x,rfl,hx,hK⟩
 replace hK:∀ p,p=.sl blV x.flatten→K p:=fun r h=>h ▸ hK
 obtain ⟨f,hf⟩:∃ f:Nat→List Bs,∀ i,f i=(x.take i).flatten:=⟨_,fun _=>rfl⟩
 have f0:f 0=[]:=by simp [hf]
 have fS:∀ i (h:i<x.length),f (i+1)=f i++x[i]:=fun i h=>by
  rw [hf,hf,List.take_succ_eq_append_getElem h]
  simp only [List.flatten_append,List.flatten_cons,List.flatten_nil,List.append_nil]
 have fN:∀ i,x.length≤i→f i=x.flatten:=fun i h=>by simp [hf,List.take_of_length_le h]
 have fl:∀ i,(f i).length≤1000000000:=fun i=>by
  rw [←List.take_append_drop i x] at hx
  simp only [List.flatten_append,List.length_append] at hx
  rw [hf];omega
 clear hf
 refine fun (hl:_≤MAXL)=>?_
 conv=>whnf
 refine yc_ (σ:=Nat) (fun i=>[(0,.sl lbV x),(2,.nil),(9,.sl lbV x),(10,.int .i64 x.length),(11,.int .i64 i),(3,.int .i64 ((f i).length:Nat))]) (fun _=>[]) (fun i=>i≤x.length) (fun i=>x.length-i) 0 (qf_ [] rfl rfl trivial ?_) (Nat.zero_le _) ?_
 ·simp only [f0]
  (repeat' first|exact True.intro|exact rfl|exact .inl rfl|exact .inr rfl|refine And.intro ?_ ?_|fail)
 intro i hi
 have hs:=fl i
 repeat' first|(refine fun (b:Bool) hb=>?_;cases b<;>first|exact absurd hb (by decide)|exact nfl hb|exact nfr hb|skip)|(refine fun (hl:_≤MAXL)=>?_)|refine And.intro (a:=I64 _) ?_ ?_|refine ⟨_,rfl,?_,rfl,?_⟩|fail
 ·conv=>whnf
  refine qda_ (σ:=Unit) (fun _=>[(0,.sl lbV x),(2,.nil),(6,.own 0)]) (fun _=>[.row 1 []]) (fun _=>True) ?_ ?_
  ·repeat' first|(refine fun (b:Bool) hb=>?_;cases b<;>first|exact absurd hb (by decide)|exact nfl hb|exact nfr hb|skip)|(refine fun (hl:_≤MAXL)=>?_)|refine And.intro (a:=I64 _) ?_ ?_|refine ⟨rfl,?_⟩|fail
   ·unfold I64;omega
   ·unfold I64;omega
   ·refine ⟨(),qf_ [none] rfl rfl trivial ?_,trivial⟩
    (repeat' first|exact True.intro|exact rfl|exact .inl rfl|exact .inr rfl|refine And.intro ?_ ?_|fail)
   ·refine ⟨(f i).length,by simp,by grind,by simp only [Nat.mul_one];omega,?_⟩
    refine fun _=>?_
    refine ⟨0,rfl,Nat.zero_le _,?_⟩
    refine ⟨(),qf_ [some 1] rfl rfl ⟨rfl,trivial⟩ ?_,trivial⟩
    (repeat' first|exact True.intro|exact rfl|exact .inl rfl|exact .inr rfl|refine And.intro ?_ ?_|fail)
  intro _ _
  refine fun (hl:_≤MAXL)=>?_
  conv=>whnf
  refine yc_ (σ:=Nat) (fun i=>[(0,.sl lbV x),(2,.nil),(6,.own 0),(25,.sl lbV x),(26,.int .i64 x.length),(27,.int .i64 i)]) (fun i=>[.row 1 ((f i).map blV)]) (fun i=>i≤x.length) (fun i=>x.length-i) 0 (qf_ [some 0] rfl rfl ⟨?_,trivial⟩ ?_) (Nat.zero_le _) ?_
  ·rw [f0];exact rfl
  ·(repeat' first|exact True.intro|exact rfl|exact .inl rfl|exact .inr rfl|refine And.intro ?_ ?_|fail)
  intro i hi
  have hs:=fl i
  repeat' first|refine ⟨_,_,_,LeL.refl _,?_⟩|(refine fun (b:Bool) hb=>?_;cases b<;>first|exact absurd hb (by decide)|exact nfl hb|exact nfr hb|skip)|refine And.intro (a:=I64 _) ?_ ?_|refine And.intro (a:=_≤140737488355328) ?_ ?_|refine ⟨_,rfl,?_,rfl,?_⟩|refine ⟨(fun _=>rfl),?_⟩|fail
  ·refine hK _ ?_
   rw [fN i (by grind)]
  ·grind
  ·have:=fl (i+1)
   rw [fS i (by grind)] at this
   simp only [List.length_append,List.length_map,lbV,qey_] at this ⊢
   omega
  ·unfold I64;grind
  ·refine ⟨i+1,?_,?_,?_⟩
   ·refine qf_ [some 1] rfl rfl ⟨?_,trivial⟩ ?_
    ·rw [fS i (by grind),List.map_append]
     exact rfl
    ·(repeat' first|exact True.intro|exact rfl|exact .inl rfl|exact .inr rfl|refine And.intro ?_ ?_|fail)
   ·grind
   ·grind
 ·grind
 ·unfold I64;grind
 ·unfold I64;grind
 ·refine ⟨i+1,?_,?_,?_⟩
  ·refine qf_ [] rfl rfl trivial ?_
   rw [fS i (by grind)]
   simp only [List.length_append]
   (repeat' first|exact True.intro|exact rfl|exact .inl rfl|exact .inr rfl|refine And.intro ?_ ?_|fail)
  ·grind
  ·grind
end Gv
namespace Gv
variable [Glob] [Laid]
theorem qum_:qb_ Tryz.prog 96=true:=by kernel_rfl
def qld_:Spec:=fun args K=>∃ (n:Gp.Node) (p:ProcS),args=[qh_ n,zf_ p]∧q5_ n=0∧K (.int .i64 (q0_ n p))
noncomputable def qoo_:List (Nat × Spec):=[(65,qs0_),(156,qg6_)]
noncomputable def qon_:List (Nat × FnI):=[]
noncomputable def qio_:List (Nat × qn_):=[]
theorem qx9_:EnvOK ⟨Tryz.prog,tys,qoo_,qon_,qio_,[]⟩:=qs_ qt_ tys0 (.cons qqf_ qqg_ (.cons qox_ qoy_ .nil)) .nil .nil rfl
theorem qun_:Pure Tryz.prog 96 qld_:=by
 refine qp_ qx9_ 6 (fi:={fn:=Tryz.f96,hooks:=[3,5,7],draws:=[(1,[0,1,3,0,8,24,63,127,255,511,1023,255,2303,8191,16383])]}) ⟨Tryz.func96,by kernel_rfl,by kernel_rfl⟩ ?_
 rintro _ K ⟨n,p,rfl,hc,hK⟩
 replace hK:∀ r,r=.int .i64 (q0_ n p)→K r:=fun r h=>h ▸ hK
 have c4:(p.got.length≠n.ins.length∨(p.out.length:Int)≠zh_ n)→V.int .i64 4=V.int .i64 (q0_ n p):=fun h=>by unfold q0_;rw [if_pos h]
 have hi:=vs_ hc
 have ho:=xh_ hc
 conv=>whnf
 refine ql_ [2,3] (σ:=Unit) (fun _=>[(2,.ptr 0 0 0),(3,.ptr 1 0 0)]) (fun _=>[.box (qh_ n).cells,.box (zf_ p).cells]) (fun _=>¬ (p.got.length≠n.ins.length∨(p.out.length:Int)≠zh_ n)) ?_
 conv=>whnf
 refine ⟨?_,fun _ h1=>?_⟩
 ·conv=>whnf
  repeat' first|exact True.intro|(refine fun (b:Bool) hb=>?_;cases b<;>first|exact absurd hb (by decide)|exact nfl hb|exact nfr hb|skip)|refine ⟨_,⟨rfl,rfl⟩,?_⟩|refine ⟨_,(fun _=>⟨rfl,rfl⟩),?_⟩|refine And.intro (a:=qj_ _ _ _ _ _ _ _ _) ?_ ?_|fail
  ·conv=>whnf
   apply Exists.intro
   apply And.intro
   ·refine ⟨n,rfl,?_⟩
    exact ⟨rfl,rfl⟩
   conv=>whnf
   repeat' first|(refine fun (b:Bool) hb=>?_;cases b<;>first|exact absurd hb (by decide)|exact nfl hb|exact nfr hb|skip)|refine ⟨_,⟨rfl,rfl⟩,?_⟩|fail
   all_goals (try (conv=>whnf))
   all_goals (skip)
   all_goals first
    | exact hK _ (c4 (by grind))
    | exact ⟨(),(by (refine qa_ ?_;refine Sel4.mk rfl rfl ?_ ?_<;>(repeat' first|exact True.intro|exact rfl|exact .inl rfl|exact .inr rfl|refine And.intro ?_ ?_|fail))),by grind⟩
  all_goals (try (conv=>whnf))
  all_goals (skip)
  all_goals (try (conv=>whnf))
  all_goals (skip)
  all_goals (try (conv=>whnf))
  all_goals (skip)
  all_goals first
   | exact hK _ (c4 (by grind))
   | exact ⟨(),(by (refine qa_ ?_;refine Sel4.mk rfl rfl ?_ ?_<;>(repeat' first|exact True.intro|exact rfl|exact .inl rfl|exact .inr rfl|refine And.intro ?_ ?_|fail))),by grind⟩
 have c3:(p.pos<0∨(n.ins.length:Int)<p.pos∨(p.read=false∧p.over=true))→V.int .i64 3=V.int .i64 (q0_ n p):=fun h=>by unfold q0_;rw [if_neg h1,if_pos h]
 conv=>whnf
 refine ql_ [2,3] (σ:=Unit) (fun _=>[]) (fun _=>[.box (qh_ n).cells,.box (zf_ p).cells]) (fun _=>¬ (p.pos<0∨(n.ins.length:Int)<p.pos∨(p.read=false∧p.over=true))) ?_
 conv=>whnf
 refine ⟨?_,fun _ h2=>?_⟩
 ·conv=>whnf
  repeat' first|(refine fun (b:Bool) hb=>?_;cases b<;>first|exact absurd hb (by decide)|exact nfl hb|exact nfr hb|skip)|(refine fun (hl:_≤MAXL)=>?_)|fail
  all_goals (try (conv=>whnf))
  all_goals (skip)
  all_goals (try (conv=>whnf))
  all_goals (skip)
  all_goals (try (conv=>whnf))
  all_goals (skip)
  all_goals first
   | exact hK _ (c3 (by grind))
   | exact ⟨(),(by (refine qa_ ?_;refine Sel4.mk rfl rfl ?_ ?_<;>(repeat' first|exact True.intro|exact rfl|exact .inl rfl|exact .inr rfl|refine And.intro ?_ ?_|fail))),by grind⟩
 have c3b:(p.read=false∧p.pos=(n.ins.length:Int)∧0<n.ins.length)→V.int .i64 3=V.int .i64 (q0_ n p):=fun h=>by unfold q0_;rw [if_neg h1,if_neg h2,if_pos h]
 conv=>whnf
 refine ql_ [3] (σ:=Unit) (fun _=>[]) (fun _=>[.box (qh_ n).cells,.box (zf_ p).cells]) (fun _=>¬ (p.read=false∧p.pos=(n.ins.length:Int)∧0<n.ins.length)) ?_
 conv=>whnf
 refine ⟨?_,fun _ h3=>?_⟩
 ·conv=>whnf
  repeat' first|(refine fun (b:Bool) hb=>?_;cases b<;>first|exact absurd hb (by decide)|exact nfl hb|exact nfr hb|skip)|(refine fun (hl:_≤MAXL)=>?_)|fail
  all_goals (try (conv=>whnf))
  all_goals (skip)
  all_goals (try (conv=>whnf))
  all_goals (skip)
  all_goals (try (conv=>whnf))
  all_goals (skip)
  all_goals first
   | exact hK _ (c3b (by grind))
   | exact ⟨(),(by (refine qa_ ?_;refine Sel4.mk rfl rfl ?_ ?_<;>(repeat' first|exact True.intro|exact rfl|exact .inl rfl|exact .inr rfl|refine And.intro ?_ ?_|fail))),by grind⟩
 conv=>whnf
 refine ⟨List Bs,lbV,[p.got,p.out],LeL.refl _,?_⟩
 skip
 refine ⟨[p.got,p.out],rfl,?_,?_⟩
 ·simp;omega
 have hfl:[p.got,p.out].flatten=p.got++p.out:=by simp
 generalize [p.got,p.out].flatten=L at hfl
 repeat' first|(refine fun (hl:_≤MAXL)=>?_)|fail
 conv=>whnf
 refine qg_ [64,65] (σ:=Nat) (fun k=>[(66,.int .i64 k)]) (fun _=>[.box (qh_ n).cells,.box (zf_ p).cells]) (fun k=>k≤L.length∧∀ b∈L.take k,b.length≤40000) (fun k=>L.length-k) 0 ?_
 conv=>whnf
 refine ⟨(by (refine qa_ ?_;refine Sel4.mk rfl rfl ?_ ?_<;>(repeat' first|exact True.intro|exact rfl|exact .inl rfl|exact .inr rfl|refine And.intro ?_ ?_|fail))),⟨Nat.zero_le _,by simp⟩,fun k hk=>?_⟩
 obtain ⟨hk,hno⟩:=hk
 repeat' first|(refine fun (b:Bool) hb=>?_;cases b<;>first|exact absurd hb (by decide)|exact nfl hb|exact nfr hb|skip)|(refine fun (hl:_≤MAXL)=>?_)|refine And.intro (a:=I64 _) ?_ ?_|refine ⟨_,rfl,?_,rfl,?_⟩|fail
 ·have hkl:k=L.length := by
   have h:=of_decide_eq_false (by assumption:decide ((k:Int)<(L.length:Int))=false)
   omega
  subst hkl
  rw [List.take_length] at hno
  conv=>whnf
  refine hK _ ?_
  unfold q0_
  rw [if_neg h1,if_neg h2,if_neg h3,←hfl,if_neg]
  rw [List.any_eq_true]
  rintro ⟨b,hb,hd⟩
  have:=of_decide_eq_true hd
  have:=hno b hb
  omega
 ·have h:=of_decide_eq_true (by assumption:decide ((k:Int)<(L.length:Int))=true)
  omega
 all_goals
  have hk2:k<L.length:=by
   have h:=of_decide_eq_true (by assumption:decide ((k:Int)<(L.length:Int))=true)
   omega
 ·have hM:L.length≤MAXL:=by assumption
  unfold I64;unfold MAXL at hM;omega
 ·refine ⟨k+1,(by (refine qa_ ?_;refine Sel4.mk rfl rfl ?_ ?_<;>(repeat' first|exact True.intro|exact rfl|exact .inl rfl|exact .inr rfl|refine And.intro ?_ ?_|fail))),⟨hk2,fun b hb=>?_⟩,by omega⟩
  rw [List.take_succ_eq_append_getElem hk2] at hb
  rcases List.mem_append.1 hb with hb|hb
  ·exact hno b hb
  ·rw [List.mem_singleton.1 hb]
   have h:=of_decide_eq_false (by assumption:decide (40000<(L[k].length:Int))=false)
   omega
 ·conv=>whnf
  refine hK _ ?_
  unfold q0_
  rw [if_neg h1,if_neg h2,if_neg h3,←hfl,if_pos]
  rw [List.any_eq_true]
  refine ⟨L[k],List.getElem_mem hk2,decide_eq_true ?_⟩
  have h:=of_decide_eq_true (by assumption:decide (40000<(L[k].length:Int))=true)
  omega
end Gv
namespace Gv
variable [Glob] [Laid]
theorem q7u_:qb_ Tryz.prog 135=true:=by kernel_rfl
def q3k_:Spec:=fun args K=>∃ (c:UInt8),args=[qd_ c]∧K (.bool (!xz_ c))
noncomputable def q3m_:List (Nat × Spec):=[]
noncomputable def q3l_:List (Nat × FnI):=[]
noncomputable def qri_:List (Nat × qn_):=[]
theorem zby_:EnvOK ⟨Tryz.prog,tys,q3m_,q3l_,qri_,[]⟩:=qs_ qt_ tys0 .nil .nil .nil rfl
theorem q7v_:Pure Tryz.prog 135 q3k_:=by
 refine qp_ zby_ 6 (fi:={fn:=Tryz.f135,hooks:=[],draws:=[]}) ⟨Tryz.func135,by kernel_rfl,by kernel_rfl⟩ ?_
 rintro _ K ⟨c,rfl,hK⟩
 replace hK:∀ r,r=.bool (!xz_ c)→K r:=fun r h=>h ▸ hK
 repeat' first|(refine fun (b:Bool) hb=>?_;cases b<;>first|exact absurd hb (by decide)|exact nfl hb|exact nfr hb|skip)|fail
 all_goals (refine hK _ ?_;unfold xz_;congr 1;grind)
end Gv
namespace Gv
variable [Glob] [Laid]
theorem qrj_:qb_ Tryz.prog 78=true:=by kernel_rfl
def qtt_:Spec:=fun args K=>∃ (s:Bs),args=[.str s]∧K (.bool (q9_ s))
noncomputable def q7x_:List (Nat × Spec):=[(135,q3k_)]
noncomputable def q7w_:List (Nat × FnI):=[(134,{fn:=Tryz.f134,hooks:=[],draws:=[]}),(170,{fn:=Tryz.f170,hooks:=[],draws:=[]})]
noncomputable def qxf_:List (Nat × qn_):=[]
theorem zds_:EnvOK ⟨Tryz.prog,tys,q7x_,q7w_,qxf_,[]⟩:=qs_ qt_ tys0 (.cons q7u_ q7v_ .nil) (.cons (by kernel_rfl) ⟨Tryz.func134,by kernel_rfl,by kernel_rfl⟩ (.cons (by kernel_rfl) ⟨Tryz.func170,by kernel_rfl,by kernel_rfl⟩ .nil)) .nil rfl
theorem qrk_:Pure Tryz.prog 78 qtt_:=by
 refine qp_ zds_ 6 (fi:={fn:=Tryz.f78,hooks:=[],draws:=[]}) ⟨Tryz.func78,by kernel_rfl,by kernel_rfl⟩ ?_
 rintro _ K ⟨s,rfl,hK⟩
 replace hK:∀ r,r=.bool (q9_ s)→K r:=fun r h=>h ▸ hK
 repeat' first|(refine fun (b:Bool) hb=>?_;cases b<;>first|exact absurd hb (by decide)|exact nfl hb|exact nfr hb|skip)|(refine fun (hl:_≤MAXL)=>?_)|refine And.intro (a:=_≤140737488355328) ?_ ?_|refine Opt.a ?_|fail
 ·refine hK _ ?_
  have h:(!decide (s=[]))=false:=by assumption
  have:s=[]:=by simpa using h
  subst this;rfl
 ·refine hK _ ?_
  have h:decide ((s.length:Int)≤12)=false:=by assumption
  have h2:¬ s.length≤12:=by
   intro h3
   have:((s.length:Int)≤12):=by omega
   simp [this] at h
  simp [q9_,h2]
 ·have h:decide ((s.length:Int)≤12)=true:=by assumption
  have h2:(s.length:Int)≤12:=by simpa using h
  omega
 have hw:∃ t:Bool,q9_ s=t∧t=s.all xz_:=by
  have h:(!decide (s=[]))=true:=by assumption
  have h1:s≠[]:=by simpa using h
  have h:decide ((s.length:Int)≤12)=true:=by assumption
  have h2:(s.length:Int)≤12:=by simpa using h
  have h3:s.length≤12:=by omega
  exact ⟨s.all xz_,by simp [q9_,h1,h3],rfl⟩
 obtain ⟨t,ht,hta⟩:=hw
 rw [ht] at hK
 conv=>whnf
 refine qg_ [0,1,7] (σ:=Nat) (fun i=>[(8,.int .i64 i)]) (fun _=>[]) (fun i=>i≤s.length∧(s.take i).all xz_=true) (fun i=>s.length-i) 0 ?_
 conv=>whnf
 refine ⟨(by (refine qf_ [] rfl rfl ?_ ?_<;>(repeat' first|exact True.intro|exact rfl|exact .inl rfl|exact .inr rfl|refine And.intro ?_ ?_|fail))),⟨Nat.zero_le _,rfl⟩,fun i hi=>?_⟩
 obtain ⟨hi,hI⟩:=hi
 repeat' first|(refine fun (b:Bool) hb=>?_;cases b<;>first|exact absurd hb (by decide)|exact nfl hb|exact nfr hb|skip)|refine ⟨_,rfl,?_,rfl,?_⟩|fail
 ·have e:s.take i=s:=List.take_of_length_le (by grind)
  rw [e] at hI
  refine hK _ ?_
  rw [hta,hI]
  rfl
 ·grind
 have hi2:i<s.length:=by grind
 refine ⟨s[i],rfl,?_⟩
 have hts:s.take (i+1)=s.take i++[s[i]]:=List.take_succ_eq_append_getElem hi2
 repeat' first|(refine fun (b:Bool) hb=>?_;cases b<;>first|exact absurd hb (by decide)|exact nfl hb|exact nfr hb|skip)|refine And.intro (a:=I64 _) ?_ ?_|fail
 ·(first|omega|(unfold I64;omega)|(simp only [List.length_append,List.length_map,List.length_cons,List.length_nil,Nat.mul_one,Int.ofNat_eq_natCast] at *;omega)|(dsimp only at *;omega)|(unfold I64;dsimp only at *;omega)|(unfold I64;grind)|grind)
 ·refine ⟨i+1,(by (refine qf_ [] rfl rfl ?_ ?_<;>(repeat' first|exact True.intro|exact rfl|exact .inl rfl|exact .inr rfl|refine And.intro ?_ ?_|fail))),⟨by omega,?_⟩,by omega⟩
  rw [hts,List.all_append,hI]
  grind
 ·refine hK _ ?_
  have h1:xz_ s[i]=false:=by grind
  have h2:s.all xz_=false:=by
   rw [List.all_eq_false]
   exact ⟨s[i],List.getElem_mem hi2,by simp [h1]⟩
  rw [hta,h2]
  simp
end Gv
namespace Gv
variable [Glob] [Laid]
theorem qky_:qb_ Tryz.prog 132=true:=by kernel_rfl
def qig_:Spec:=fun args K=>∃ (k:Int) (s:Bs) (n:Int),args=[.agg [.int .i64 k,.str s,.int .i64 n]]∧K (.int .i64 (qz_ ⟨k,s,n⟩))
noncomputable def qt5_:List (Nat × Spec):=[(78,qtt_)]
noncomputable def qt4_:List (Nat × FnI):=[]
noncomputable def qk0_:List (Nat × qn_):=[]
theorem q4d_:EnvOK ⟨Tryz.prog,tys,qt5_,qt4_,qk0_,[]⟩:=qs_ qt_ tys0 (.cons qrj_ qrk_ .nil) .nil .nil rfl
theorem qkz_:Pure Tryz.prog 132 qig_:=by
 refine qp_ q4d_ 6 (fi:={fn:=Tryz.f132,hooks:=[4,5,7,9],draws:=[]}) ⟨Tryz.func132,by kernel_rfl,by kernel_rfl⟩ ?_
 rintro _ K ⟨k,s,n,rfl,hK⟩
 replace hK:∀ r,r=.int .i64 (qz_ ⟨k,s,n⟩)→K r:=fun r h=>h ▸ hK
 obtain ⟨uw,huw⟩:∃ b,qaf_ ⟨k,s,n⟩=b:=⟨_,rfl⟩
 obtain ⟨un,hun⟩:∃ b,useN ⟨k,s,n⟩=b:=⟨_,rfl⟩
 have hc:qz_ ⟨k,s,n⟩=if k<1∨10<k then 4 else if (uw=false∧s≠[])∨(un=false∧n≠0) then 4 else if un=true∧(n<1∨1000<n) then 3 else if (uw=true∧q9_ s=false)∨(k=3∧s.length≠2) then 1 else 0:=by
  unfold qz_
  rw [huw,hun]
 rw [hc] at hK
 clear hc
 simp only [qaf_] at huw
 simp only [useN] at hun
 repeat' first|(refine fun (b:Bool) hb=>?_;cases b<;>first|exact absurd hb (by decide)|exact nfl hb|exact nfr hb|skip)|fail
 rotate_left
 ·exact hK _ (by rw [if_pos (by grind)])
 ·exact hK _ (by rw [if_pos (by grind)])
 have h1:¬ (k<1∨10<k):=by grind
 simp only [h1,if_false] at hK
 conv=>whnf
 refine ql_ [1] (σ:=Bool) (fun b=>[(3,.bool b)]) (fun _=>[.box [.int .i64 k,.str s,.int .i64 n]]) (fun b=>b=uw) ?_
 conv=>whnf
 refine ⟨?_,fun b hbu=>?_⟩
 ·repeat' first|(refine fun (b:Bool) hb=>?_;cases b<;>first|exact absurd hb (by decide)|exact nfl hb|exact nfr hb|skip)|fail
  all_goals (refine ⟨_,by refine qf_ [some 0] rfl rfl ?_ ?_<;>(repeat' first|exact True.intro|exact rfl|exact .inl rfl|exact .inr rfl|refine And.intro ?_ ?_|fail),?_⟩;rw [←huw];simp_all)
 obtain rfl:uw=b:=hbu.symm
 clear huw
 conv=>whnf
 refine ql_ [1,3] (σ:=Bool) (fun b=>[(4,.bool b)]) (fun _=>[.box [.int .i64 k,.str s,.int .i64 n]]) (fun b=>b=un) ?_
 conv=>whnf
 refine ⟨?_,fun b hbu=>?_⟩
 ·repeat' first|(refine fun (b:Bool) hb=>?_;cases b<;>first|exact absurd hb (by decide)|exact nfl hb|exact nfr hb|skip)|fail
  all_goals (refine ⟨_,by refine qf_ [some 0] rfl rfl ?_ ?_<;>(repeat' first|exact True.intro|exact rfl|exact .inl rfl|exact .inr rfl|refine And.intro ?_ ?_|fail),?_⟩;rw [←hun];simp_all)
 obtain rfl:un=b:=hbu.symm
 clear hun
 conv=>whnf
 refine ql_ [1,3,4] (σ:=Unit) (fun b=>[]) (fun _=>[.box [.int .i64 k,.str s,.int .i64 n]]) (fun b=>¬ ((uw=false∧s≠[])∨(un=false∧n≠0))) ?_
 conv=>whnf
 refine ⟨?_,fun _ h2=>?_⟩
 ·repeat' first|(refine fun (b:Bool) hb=>?_;cases b<;>first|exact absurd hb (by decide)|exact nfl hb|exact nfr hb|skip)|fail
  all_goals (conv=>whnf)
  all_goals first
   | (refine ⟨(),(by (refine qf_ [some 0] rfl rfl ?_ ?_<;>(repeat' first|exact True.intro|exact rfl|exact .inl rfl|exact .inr rfl|refine And.intro ?_ ?_|fail))),?_⟩;simp_all;done)
   | (refine hK _ ?_;rw [if_pos];simp_all;done)
 simp only [h2,if_false] at hK
 conv=>whnf
 refine ql_ [1,3] (σ:=Unit) (fun b=>[]) (fun _=>[.box [.int .i64 k,.str s,.int .i64 n]]) (fun b=>¬ (un=true∧(n<1∨1000<n))) ?_
 conv=>whnf
 refine ⟨?_,fun _ h3=>?_⟩
 ·repeat' first|(refine fun (b:Bool) hb=>?_;cases b<;>first|exact absurd hb (by decide)|exact nfl hb|exact nfr hb|skip)|fail
  all_goals (conv=>whnf)
  all_goals first
   | (refine ⟨(),(by (refine qf_ [some 0] rfl rfl ?_ ?_<;>(repeat' first|exact True.intro|exact rfl|exact .inl rfl|exact .inr rfl|refine And.intro ?_ ?_|fail))),?_⟩;simp_all;done)
   | (refine hK _ ?_;rw [if_pos];simp_all;done)
 simp only [h3,if_false] at hK
 repeat' first|(refine fun (b:Bool) hb=>?_;cases b<;>first|exact absurd hb (by decide)|exact nfl hb|exact nfr hb|skip)|(refine fun (hl:_≤MAXL)=>?_)|fail
 all_goals (conv=>whnf)
 any_goals first
     | (refine hK _ ?_;rw [if_pos];simp_all;done)
     | (refine hK _ ?_;rw [if_neg];simp_all;done)
 refine ⟨s,rfl,?_⟩
 repeat' first|(refine fun (b:Bool) hb=>?_;cases b<;>first|exact absurd hb (by decide)|exact nfl hb|exact nfr hb|skip)|(refine fun (hl:_≤MAXL)=>?_)|fail
 all_goals (conv=>whnf)
 any_goals first
     | (refine hK _ ?_;rw [if_pos];simp_all;done)
     | (refine hK _ ?_;rw [if_neg];simp_all;done)
 ·refine hK _ ?_
  rw [if_neg]
  grind
 ·refine hK _ ?_
  rw [if_pos]
  grind
end Gv
namespace Gv
variable [Glob] [Laid]
theorem qx3_:qb_ Tryz.prog 166=true:=by kernel_rfl
def qr1_:Spec:=fun args K=>∃ (h:Int) (c:Cmd),args=[.int .i64 h,cmdV c]∧K (.int .i64 (z2_ h c))
noncomputable def quh_:List (Nat × Spec):=[(132,qig_)]
noncomputable def qug_:List (Nat × FnI):=[]
noncomputable def qla_:List (Nat × qn_):=[]
theorem q4h_:EnvOK ⟨Tryz.prog,tys,quh_,qug_,qla_,[(38,[true,false,true])]⟩:=qs_ qt_ tys0 (.cons qky_ qkz_ .nil) .nil .nil (by kernel_rfl)
theorem qx4_:Pure Tryz.prog 166 qr1_:=by
 refine qp_ q4h_ 6 (fi:={fn:=Tryz.f166,hooks:=[],draws:=[]}) ⟨Tryz.func166,by kernel_rfl,by kernel_rfl⟩ ?_
 rintro _ K ⟨h,c,rfl,hK⟩
 replace hK:∀ r,r=.int .i64 (z2_ h c)→K r:=fun r h=>h ▸ hK
 obtain ⟨ck,cw,cn⟩:=c
 obtain ⟨q,hq⟩:∃ q,qz_ ⟨ck,cw,cn⟩=q:=⟨_,rfl⟩
 unfold z2_ at hK
 rw [hq] at hK
 repeat' first|(refine fun (b:Bool) hb=>?_;cases b<;>first|exact absurd hb (by decide)|exact nfl hb|exact nfr hb|skip)|fail
 ·have h1:¬ h<1:=of_decide_eq_false (by assumption)
  have h2:¬ 4<h:=of_decide_eq_false (by assumption)
  have h3:h=4:=by
   have h3:(!decide (h=4))=false:=by assumption
   simpa using h3
  refine ⟨ck,cw,cn,rfl,?_⟩
  rw [hq]
  skip
  refine hK _ ?_
  rw [if_neg (by omega),if_neg (by omega)]
 ·have h1:¬ h<1:=of_decide_eq_false (by assumption)
  have h2:¬ 4<h:=of_decide_eq_false (by assumption)
  have h3:¬ h=4:=by
   have h3:(!decide (h=4))=true:=by assumption
   simpa using h3
  have hz:(⟨ck,cw,cn⟩:Cmd)=zCmd:=by
   unfold zCmd
   grind
  conv=>whnf
  refine hK _ ?_
  rw [if_neg (by omega),if_pos h3,if_neg (fun e=>e hz)]
 ·have h1:¬ h<1:=of_decide_eq_false (by assumption)
  have h2:¬ 4<h:=of_decide_eq_false (by assumption)
  have h3:¬ h=4:=by
   have h3:(!decide (h=4))=true:=by assumption
   simpa using h3
  have hz:(⟨ck,cw,cn⟩:Cmd)≠zCmd:=by
   unfold zCmd
   grind
  conv=>whnf
  refine hK _ ?_
  rw [if_neg (by omega),if_pos h3,if_pos hz]
 ·have h2:4<h:=of_decide_eq_true (by assumption)
  conv=>whnf
  refine hK _ ?_
  rw [if_pos (by omega)]
 ·have h2:h<1:=of_decide_eq_true (by assumption)
  conv=>whnf
  refine hK _ ?_
  rw [if_pos (by omega)]
end Gv
namespace Gv
variable [Glob] [Laid]
theorem q9d_ {a b:Cmd} (h1:a.kind=b.kind) (h2:a.word=b.word) (h3:a.n=b.n):a=b:=by
 cases a;cases b;simp_all
theorem q52_ {a b:Gp.Node} (h1:a.kind=b.kind) (h2:a.file=b.file) (h3:a.c=b.c) (h4:a.how=b.how) (h5:a.wide=b.wide) (h6:a.ins=b.ins):a=b:=by
 cases a;cases b;simp_all
theorem qx7_:qb_ Tryz.prog 125=true:=by kernel_rfl
def qr2_:Spec:=fun args K=>∃ n:Gp.Node,args=[qh_ n]∧K (.int .i64 (q5_ n))
noncomputable def qul_:List (Nat × Spec):=[(78,qtt_),(132,qig_),(166,qr1_)]
noncomputable def quk_:List (Nat × FnI):=[]
noncomputable def qlc_:List (Nat × qn_):=[]
theorem q4i_:EnvOK ⟨Tryz.prog,tys,qul_,quk_,qlc_,[(38,[true,false,true])]⟩:=qs_ qt_ tys0 (.cons qrj_ qrk_ (.cons qky_ qkz_ (.cons qx3_ qx4_ .nil))) .nil .nil (by kernel_rfl)
theorem qx8_:Pure Tryz.prog 125 qr2_:=by
 refine qp_ q4i_ 6 (fi:={fn:=Tryz.f125,hooks:=[23],draws:=[(20,[0,1,0,4,3,19,63,127])]}) ⟨Tryz.func125,by kernel_rfl,by kernel_rfl⟩ ?_
 rintro _ K ⟨n,rfl,hK⟩
 replace hK:∀ r,r=.int .i64 (q5_ n)→K r:=fun r h=>h ▸ hK
 repeat' first|(refine fun (hl:_≤MAXL)=>?_)|fail
 conv=>whnf
 refine ql_ [1,3] (σ:=Unit) (fun _=>[(4,.int .i64 (errN n)),(5,.bool (insN n))]) (fun _=>[.box (qh_ n).cells,.box (qh_ (zy_ n)).cells]) (fun _=>1≤n.kind∧n.kind≤5) ?_
 conv=>whnf
 refine ⟨?_,fun _ hk=>?_⟩
 ·repeat' first|exact True.intro|(refine fun (b:Bool) hb=>?_;cases b<;>first|exact absurd hb (by decide)|exact nfl hb|exact nfr hb|skip)|refine ⟨_,⟨rfl,rfl⟩,?_⟩|refine ⟨_,_,⟨rfl,rfl⟩,?_⟩|refine And.intro (a:=qx_ _ _ _ _ _ _) ?_ ?_|refine And.intro (a:=qj_ _ _ _ _ _ _ _ _) ?_ ?_|refine ⟨⟨rfl,rfl⟩,?_⟩|fail
  all_goals first|exact absurd ((by assumption:decide (n.kind=1)=true).symm.trans (by assumption:decide (n.kind=1)=false)) (by decide)|skip
  ·have h1:¬ n.kind=1:=of_decide_eq_false (by assumption)
   have h5:¬ n.kind=5:=of_decide_eq_false (by assumption)
   have h2:¬ n.kind=2:=of_decide_eq_false (by assumption)
   have h3:¬ n.kind=3:=of_decide_eq_false (by assumption)
   have h4:¬ n.kind=4:=of_decide_eq_false (by assumption)
   conv=>whnf
   refine hK _ ?_
   unfold q5_
   rw [if_pos (by omega)]
  ·have h4:n.kind=4:=of_decide_eq_true (by assumption)
   have e1:errN n=z2_ n.how n.c:=by unfold errN;rw [if_neg (by omega),if_neg (by omega),if_neg (by omega)]
   have e2:insN n=(decide ((1:Int)≤(n.ins.length:Int)) && decide ((n.ins.length:Int)≤5)):=by unfold insN;rw [if_neg (by omega),if_pos h4]
   have e3:zy_ n=⟨n.kind,[],n.c,n.how,0,n.ins⟩:=by unfold zy_;simp [h4]
   conv=>whnf
   refine ⟨n.how,n.c,rfl,?_⟩
   repeat' first|(refine fun (b:Bool) hb=>?_;cases b<;>first|exact absurd hb (by decide)|exact nfl hb|exact nfr hb|skip)|(refine fun (hl:_≤MAXL)=>?_)|fail
   all_goals (conv=>whnf)
   ·refine ⟨(),?_,by omega⟩
    rw [e1,e2,e3,(by assumption:decide ((1:Int)≤(n.ins.length:Int))=false),Bool.false_and]
    exact (by (refine qa_ ?_;refine Sel4.mk rfl rfl ?_ ?_<;>(repeat' first|exact True.intro|exact rfl|exact .inl rfl|exact .inr rfl|refine And.intro ?_ ?_|fail)))
   ·refine ⟨(),?_,by omega⟩
    rw [e1,e2,e3,(by assumption:decide ((1:Int)≤(n.ins.length:Int))=true),Bool.true_and]
    exact (by (refine qa_ ?_;refine Sel4.mk rfl rfl ?_ ?_<;>(repeat' first|exact True.intro|exact rfl|exact .inl rfl|exact .inr rfl|refine And.intro ?_ ?_|fail)))
  ·have h3:n.kind=3:=of_decide_eq_true (by assumption)
   have e1:errN n=qz_ n.c:=by unfold errN;rw [if_neg (by omega),if_neg (by omega),if_pos h3]
   have e2:insN n=decide ((n.ins.length:Int)=1):=by unfold insN;rw [if_neg (by omega),if_neg (by omega)]
   have e3:zy_ n=⟨n.kind,[],n.c,0,0,n.ins⟩:=by unfold zy_;simp [h3]
   conv=>whnf
   refine ⟨n.c.kind,n.c.word,n.c.n,rfl,?_⟩
   conv=>whnf
   refine ⟨(),?_,by omega⟩
   rw [e1,e2,e3]
   exact (by (refine qa_ ?_;refine Sel4.mk rfl rfl ?_ ?_<;>(repeat' first|exact True.intro|exact rfl|exact .inl rfl|exact .inr rfl|refine And.intro ?_ ?_|fail)))
  ·have h2:n.kind=2:=of_decide_eq_true (by assumption)
   have e1:errN n=0:=by unfold errN;rw [if_neg (by omega),if_pos h2,if_neg (by have:=of_decide_eq_false (by assumption:decide (n.wide<1)=false);have:=of_decide_eq_false (by assumption:decide (5<n.wide)=false);omega)]
   have e2:insN n=decide ((n.ins.length:Int)=1):=by unfold insN;rw [if_neg (by omega),if_neg (by omega)]
   have e3:zy_ n=⟨n.kind,[],zCmd,0,n.wide,n.ins⟩:=by unfold zy_;simp [h2]
   conv=>whnf
   refine ⟨(),?_,by omega⟩
   rw [e1,e2,e3]
   exact (by (refine qa_ ?_;refine Sel4.mk rfl rfl ?_ ?_<;>(repeat' first|exact True.intro|exact rfl|exact .inl rfl|exact .inr rfl|refine And.intro ?_ ?_|fail)))
  ·have h2:n.kind=2:=of_decide_eq_true (by assumption)
   have e1:errN n=3:=by unfold errN;rw [if_neg (by omega),if_pos h2,if_pos (.inr (of_decide_eq_true (by assumption:decide (5<n.wide)=true)))]
   have e2:insN n=decide ((n.ins.length:Int)=1):=by unfold insN;rw [if_neg (by omega),if_neg (by omega)]
   have e3:zy_ n=⟨n.kind,[],zCmd,0,n.wide,n.ins⟩:=by unfold zy_;simp [h2]
   conv=>whnf
   refine ⟨(),?_,by omega⟩
   rw [e1,e2,e3]
   exact (by (refine qa_ ?_;refine Sel4.mk rfl rfl ?_ ?_<;>(repeat' first|exact True.intro|exact rfl|exact .inl rfl|exact .inr rfl|refine And.intro ?_ ?_|fail)))
  ·have h2:n.kind=2:=of_decide_eq_true (by assumption)
   have e1:errN n=3:=by unfold errN;rw [if_neg (by omega),if_pos h2,if_pos (.inl (of_decide_eq_true (by assumption:decide (n.wide<1)=true)))]
   have e2:insN n=decide ((n.ins.length:Int)=1):=by unfold insN;rw [if_neg (by omega),if_neg (by omega)]
   have e3:zy_ n=⟨n.kind,[],zCmd,0,n.wide,n.ins⟩:=by unfold zy_;simp [h2]
   conv=>whnf
   refine ⟨(),?_,by omega⟩
   rw [e1,e2,e3]
   exact (by (refine qa_ ?_;refine Sel4.mk rfl rfl ?_ ?_<;>(repeat' first|exact True.intro|exact rfl|exact .inl rfl|exact .inr rfl|refine And.intro ?_ ?_|fail)))
  ·have h5:n.kind=5:=of_decide_eq_true (by assumption)
   have e1:errN n=if q9_ n.file=true then 0 else 1:=by unfold errN;rw [if_pos (.inr h5)]
   have e2:insN n=((decide ((n.ins.length:Int)=1) == decide (n.kind=5)) && decide ((n.ins.length:Int)<2)):=by unfold insN;rw [if_pos (.inr h5)]
   have e3:zy_ n=⟨n.kind,n.file,zCmd,0,0,n.ins⟩:=by unfold zy_;simp [h5]
   conv=>whnf
   refine ⟨n.file,rfl,?_⟩
   repeat' first|(refine fun (b:Bool) hb=>?_;cases b<;>first|exact absurd hb (by decide)|exact nfl hb|exact nfr hb|skip)|(refine fun (hl:_≤MAXL)=>?_)|fail
   all_goals (conv=>whnf)
   all_goals refine ⟨(),?_,by omega⟩
   all_goals rw [e1,e2,e3]
   all_goals first|rw [(by assumption:(decide ((n.ins.length:Int)=1) == decide (n.kind=5))=false),Bool.false_and]|rw [(by assumption:(decide ((n.ins.length:Int)=1) == decide (n.kind=5))=true),Bool.true_and]
   all_goals first|rw [if_neg (by simpa using (by assumption:(!q9_ n.file)=true))]|rw [if_pos (by simpa using (by assumption:(!q9_ n.file)=false))]
   all_goals exact (by (refine qa_ ?_;refine Sel4.mk rfl rfl ?_ ?_<;>(repeat' first|exact True.intro|exact rfl|exact .inl rfl|exact .inr rfl|refine And.intro ?_ ?_|fail)))
  ·have h5:n.kind=1:=of_decide_eq_true (by assumption)
   have e1:errN n=if q9_ n.file=true then 0 else 1:=by unfold errN;rw [if_pos (.inl h5)]
   have e2:insN n=((decide ((n.ins.length:Int)=1) == decide (n.kind=5)) && decide ((n.ins.length:Int)<2)):=by unfold insN;rw [if_pos (.inl h5)]
   have e3:zy_ n=⟨n.kind,n.file,zCmd,0,0,n.ins⟩:=by unfold zy_;simp [h5]
   conv=>whnf
   refine ⟨n.file,rfl,?_⟩
   repeat' first|(refine fun (b:Bool) hb=>?_;cases b<;>first|exact absurd hb (by decide)|exact nfl hb|exact nfr hb|skip)|(refine fun (hl:_≤MAXL)=>?_)|fail
   all_goals (conv=>whnf)
   all_goals refine ⟨(),?_,by omega⟩
   all_goals rw [e1,e2,e3]
   all_goals first|rw [(by assumption:(decide ((n.ins.length:Int)=1) == decide (n.kind=5))=false),Bool.false_and]|rw [(by assumption:(decide ((n.ins.length:Int)=1) == decide (n.kind=5))=true),Bool.true_and]
   all_goals first|rw [if_neg (by simpa using (by assumption:(!q9_ n.file)=true))]|rw [if_pos (by simpa using (by assumption:(!q9_ n.file)=false))]
   all_goals exact (by (refine qa_ ?_;refine Sel4.mk rfl rfl ?_ ?_<;>(repeat' first|exact True.intro|exact rfl|exact .inl rfl|exact .inr rfl|refine And.intro ?_ ?_|fail)))
 ·have hce:q5_ n=if errN n≠0 then errN n else if insN n=true∧n=zy_ n then 0 else 4:=by unfold q5_;rw [if_neg (by omega)]
  rw [hce] at hK
  have hw1:(zy_ n).kind=n.kind:=rfl
  have hw2:(zy_ n).ins=n.ins:=rfl
  repeat' first|(refine fun (b:Bool) hb=>?_;cases b<;>first|exact absurd hb (by decide)|exact nfl hb|exact nfr hb|skip)|fail
  all_goals conv=>whnf
  all_goals refine hK _ (congrArg (V.int .i64) ?_)
  all_goals first|(rw [if_neg (by simpa using (by assumption:(!decide (errN n=0))=false))])|(rw [if_pos (by simpa using (by assumption:(!decide (errN n=0))=true))])
  ·have f1:insN n=true:=by simpa using (by assumption:(!insN n)=false)
   have f2:n.file=(zy_ n).file:=by simpa using (by assumption:(!decide (n.file=(zy_ n).file))=false)
   have f3:n.how=(zy_ n).how:=by simpa using (by assumption:(!decide (n.how=(zy_ n).how))=false)
   have f4:n.wide=(zy_ n).wide:=by simpa using (by assumption:(!decide (n.wide=(zy_ n).wide))=false)
   have f5:n.c=(zy_ n).c:=by
    have h:=(by assumption:(!(decide (n.c.kind=(zy_ n).c.kind) && (decide (n.c.word=(zy_ n).c.word) && (decide (n.c.n=(zy_ n).c.n) && true))))=false)
    have h:n.c.kind=(zy_ n).c.kind∧n.c.word=(zy_ n).c.word∧n.c.n=(zy_ n).c.n:=by simpa using h
    exact q9d_ h.1 h.2.1 h.2.2
   rw [if_pos ⟨f1,q52_ rfl f2 f5 f3 f4 rfl⟩]
  ·have f4:¬ n.wide=(zy_ n).wide:=by simpa using (by assumption:(!decide (n.wide=(zy_ n).wide))=true)
   rw [if_neg (fun x=>f4 (congrArg Gp.Node.wide x.2))]
  ·have f4:¬ n.how=(zy_ n).how:=by simpa using (by assumption:(!decide (n.how=(zy_ n).how))=true)
   rw [if_neg (fun x=>f4 (congrArg Gp.Node.how x.2))]
  ·have h:=(by assumption:(!(decide (n.c.kind=(zy_ n).c.kind) && (decide (n.c.word=(zy_ n).c.word) && (decide (n.c.n=(zy_ n).c.n) && true))))=true)
   have f4:¬ n.c=(zy_ n).c:=fun e=>by
    rw [←e] at h
    simp at h
   rw [if_neg (fun x=>f4 (congrArg Gp.Node.c x.2))]
  ·have f4:¬ n.file=(zy_ n).file:=by simpa using (by assumption:(!decide (n.file=(zy_ n).file))=true)
   rw [if_neg (fun x=>f4 (congrArg Gp.Node.file x.2))]
  ·have f4:¬ insN n=true:=by simpa using (by assumption:(!insN n)=true)
   rw [if_neg (fun x=>f4 x.1)]
end Gv
namespace Gv
variable [Glob] [Laid]
theorem qk6_:qb_ Tryz.prog 62=true:=by kernel_rfl
def qik_:Spec:=fun args K=>∃ N:List Gp.Node,args=[.agg [.sl qh_ N]]∧K (.int .i64 (zt_ N))
noncomputable def qud_:List (Nat × Spec):=[(125,qr2_),(65,qs0_)]
noncomputable def quc_:List (Nat × FnI):=[]
noncomputable def qk8_:List (Nat × qn_):=[]
theorem q4f_:EnvOK ⟨Tryz.prog,tys,qud_,quc_,qk8_,[(47,[true,true])]⟩:=qs_ qt_ tys0 (.cons qx7_ qx8_ (.cons qqf_ qqg_ .nil)) .nil .nil (by kernel_rfl)
set_option maxHeartbeats 80000000 in
theorem qk7_:Pure Tryz.prog 62 qik_:=by
 refine qp_ q4f_ 6 (fi:={fn:=Tryz.f62,hooks:=[16],draws:=[(14,[0,1,3,7,15,31,15,127,255,511,1023,2047,4095,8191,16383,32767,65535,32767,163839,32767,557055,1998847,4095999,8290303,16777215,33554431])]}) ⟨Tryz.func62,by kernel_rfl,by kernel_rfl⟩ ?_
 rintro _ K ⟨N,rfl,hK⟩
 replace hK:∀ r,r=.int .i64 (zt_ N)→K r:=fun r h=>h ▸ hK
 unfold zt_ at hK
 repeat' first|(refine fun (b:Bool) hb=>?_;cases b<;>first|exact absurd hb (by decide)|exact nfl hb|exact nfr hb|skip)|(refine fun (hl:_≤MAXL)=>?_)|refine ⟨Bool,V.lit,?_⟩|fail
 rotate_left
 ·have h:(60:Int)<(N.length:Int):=of_decide_eq_true (by assumption)
  rw [if_pos (by omega)] at hK
  exact hK _ rfl
 have h60:¬ (60:Int)<(N.length:Int):=of_decide_eq_false (by assumption)
 rw [if_neg (by omega)] at hK
 conv=>whnf
 refine qg_ [1,3,16,17] (σ:=Nat × Int × Ents) (fun s=>[(18,.int .i64 s.1),(4,.int .i64 s.2.1)]) (fun s=>[.box [.sl qh_ N],.mp 47 4 .pair V.lit s.2.2]) (fun s=>s.1≤N.length∧zx_ N s.1 (N.drop s.1) s.2.1 s.2.2=zx_ N 0 N 0 []∧0≤s.2.1∧s.2.1≤5*s.1) (fun s=>N.length-s.1) (0,0,[]) ?_
 conv=>whnf
 refine ⟨(by (refine qa_ ?_;refine Sel4.mk rfl rfl ?_ ?_<;>(repeat' first|exact True.intro|exact rfl|exact .inl rfl|exact .inr rfl|refine And.intro ?_ ?_|fail))),⟨Nat.zero_le _,rfl,by decide,by decide⟩,fun s hs=>?_⟩
 obtain ⟨i,o,u⟩:=s
 obtain ⟨hi,hgo,ho1,ho2⟩:=hs
 dsimp only at hi hgo ho1 ho2
 repeat' first|(refine fun (b:Bool) hb=>?_;cases b<;>first|exact absurd hb (by decide)|exact nfl hb|exact nfr hb|skip)|(refine fun (hl:_≤MAXL)=>?_)|refine ⟨_,rfl,?_,rfl,?_⟩|fail
 ·have hge:¬ (i:Int)<(N.length:Int):=of_decide_eq_false (by assumption)
  have h0:¬ (N.length:Int)=0:=of_decide_eq_false (by assumption)
  have h1:(u.length:Int)=o:=by simpa using (by assumption:(!decide ((u.length:Int)=o))=false)
  conv=>whnf
  refine hK _ (congrArg (V.int .i64) ?_)
  rw [←hgo,List.drop_eq_nil_of_le (by omega),zx_,if_neg (by omega)]
 ·have hge:¬ (i:Int)<(N.length:Int):=of_decide_eq_false (by assumption)
  have h1:¬ (u.length:Int)=o:=by simpa using (by assumption:(!decide ((u.length:Int)=o))=true)
  conv=>whnf
  refine hK _ (congrArg (V.int .i64) ?_)
  rw [←hgo,List.drop_eq_nil_of_le (by omega),zx_,if_pos (.inr h1)]
 ·have hge:¬ (i:Int)<(N.length:Int):=of_decide_eq_false (by assumption)
  have h0:(N.length:Int)=0:=of_decide_eq_true (by assumption)
  conv=>whnf
  refine hK _ (congrArg (V.int .i64) ?_)
  rw [←hgo,List.drop_eq_nil_of_le (by omega),zx_,if_pos (.inl (by omega))]
 ·have h:(i:Int)<(N.length:Int):=of_decide_eq_true (by assumption)
  show i<N.length
  omega
 have hlt:i<N.length:=by
  have h:(i:Int)<(N.length:Int):=of_decide_eq_true (by assumption)
  omega
 rw [qdd_ hlt] at hgo
 conv=>whnf
 refine ⟨N[i],rfl,?_⟩
 repeat' first|(refine fun (b:Bool) hb=>?_;cases b<;>first|exact absurd hb (by decide)|exact nfl hb|exact nfr hb|skip)|(refine fun (hl:_≤MAXL)=>?_)|fail
 rotate_left
 ·have hcn:¬ q5_ N[i]=0:=by simpa using (by assumption:(!decide (q5_ N[i]=0))=true)
  rw [if_pos hcn] at hgo
  conv=>whnf
  exact hK _ (congrArg (V.int .i64) hgo)
 have hcn:q5_ N[i]=0:=by simpa using (by assumption:(!decide (q5_ N[i]=0))=false)
 rw [if_neg (fun h=>h hcn)] at hgo
 obtain ⟨ho3,ho4⟩:=xh_ hcn
 conv=>whnf
 refine qg_ [1,3,4,5,6,16,17,18,29,30] (σ:=Nat × Ents) (fun s=>[(31,.int .i64 s.1)]) (fun s=>[.box [.sl qh_ N],.mp 47 4 .pair V.lit s.2,.box (qh_ N[i]).cells]) (fun s=>s.1≤N[i].ins.length∧q4_ N i (N[i].ins.drop s.1) s.2=q4_ N i N[i].ins u) (fun s=>N[i].ins.length-s.1) (0,u) ?_
 conv=>whnf
 refine ⟨(by (refine qa_ ?_;refine Sel4.mk rfl rfl ?_ ?_<;>(repeat' first|exact True.intro|exact rfl|exact .inl rfl|exact .inr rfl|refine And.intro ?_ ?_|fail))),⟨Nat.zero_le _,rfl⟩,fun s hs=>?_⟩
 obtain ⟨j,v⟩:=s
 obtain ⟨hj,hpg⟩:=hs
 dsimp only at hj hpg
 repeat' first|(refine fun (b:Bool) hb=>?_;cases b<;>first|exact absurd hb (by decide)|exact nfl hb|exact nfr hb|skip)|(refine fun (hl:_≤MAXL)=>?_)|refine And.intro (a:=I64 _) ?_ ?_|refine ⟨_,rfl,?_,rfl,?_⟩|fail
 ·unfold I64;omega
 ·have hge:¬ (j:Int)<(N[i].ins.length:Int):=of_decide_eq_false (by assumption)
  have h5:=(by assumption:(!decide (N[i].kind=5) == decide ((i:Int)=(N.length:Int)-1))=false)
  have h6:decide (N[i].kind=5)=decide ((i:Int)=(N.length:Int)-1):=by simpa using h5
  rw [List.drop_eq_nil_of_le (by omega),q4_] at hpg
  rw [←hpg,if_neg (fun h=>h rfl),if_neg (fun h=>h h6)] at hgo
  conv=>whnf
  refine ⟨N[i],rfl,?_⟩
  repeat' first|refine And.intro (a:=I64 _) ?_ ?_|fail
  ·show I64 (o+zh_ N[i])
   unfold I64;omega
  ·show I64 ((i:Int)+1)
   unfold I64;omega
  conv=>whnf
  exact ⟨(i+1,o+zh_ N[i],v),(by (refine qa_ ?_;refine Sel4.mk rfl rfl ?_ ?_<;>(repeat' first|exact True.intro|exact rfl|exact .inl rfl|exact .inr rfl|refine And.intro ?_ ?_|fail))),⟨hlt,hgo,by dsimp only;omega,by dsimp only;omega⟩,by show N.length-(i+1)<N.length-i;omega⟩
 ·have hge:¬ (j:Int)<(N[i].ins.length:Int):=of_decide_eq_false (by assumption)
  have h5:=(by assumption:(!decide (N[i].kind=5) == decide ((i:Int)=(N.length:Int)-1))=true)
  have h6:¬ decide (N[i].kind=5)=decide ((i:Int)=(N.length:Int)-1):=by simpa using h5
  rw [List.drop_eq_nil_of_le (by omega),q4_] at hpg
  rw [←hpg,if_neg (fun h=>h rfl),if_pos h6] at hgo
  conv=>whnf
  refine hK _ (congrArg (V.int .i64) ?_)
  exact hgo
 ·have h:(j:Int)<(N[i].ins.length:Int):=of_decide_eq_true (by assumption)
  show j<N[i].ins.length
  omega
 have hjl:j<N[i].ins.length:=by
  have h:(j:Int)<(N[i].ins.length:Int):=of_decide_eq_true (by assumption)
  omega
 rw [qhv_ hjl] at hpg
 obtain ⟨p,hp⟩:∃ p,N[i].ins[j]=p:=⟨_,rfl⟩
 rw [hp] at hpg
 conv=>whnf
 refine ql_ [1,3,4,5,6,9,16,17,18,29,30,31] (σ:=Unit) (fun _=>[]) (fun _=>[.box [.sl qh_ N],.mp 47 4 .pair V.lit v,.box (qh_ N[i]).cells,.box [.int .i64 p.node,.int .i64 p.out]]) (fun _=>¬ (p.node<0∨(i:Int)≤p.node∨p.out<0∨zh_ (N.getD p.node.toNat ⟨0,[],zCmd,0,0,[]⟩)≤p.out)) ?_
 conv=>whnf
 refine ⟨?_,fun _ hok=>?_⟩
 ·rw [hp]
  repeat' first|exact True.intro|(refine fun (b:Bool) hb=>?_;cases b<;>first|exact absurd hb (by decide)|exact nfl hb|exact nfr hb|skip)|refine ⟨_,⟨rfl,rfl⟩,?_⟩|refine And.intro (a:=qj_ _ _ _ _ _ _ _ _) ?_ ?_|fail
  ·have h1:¬ p.node<0:=of_decide_eq_false (by assumption)
   have h2:¬ (i:Int)≤p.node:=of_decide_eq_false (by assumption)
   have h3:¬ p.out<0:=of_decide_eq_false (by assumption)
   obtain ⟨k,hk⟩:∃ k:Nat,p.node=k:=⟨p.node.toNat,by omega⟩
   have hkN:k<N.length:=by omega
   have hgk:N.getD p.node.toNat ⟨0,[],zCmd,0,0,[]⟩=N[k]:=by
    rw [hk,Int.toNat_natCast,List.getD_eq_getElem?_getD,List.getElem?_eq_getElem hkN]
    rfl
   conv=>whnf
   refine ⟨_,⟨k,hk,hkN,rfl,rfl,rfl⟩,?_⟩
   repeat' first|refine ⟨_,⟨rfl,rfl⟩,?_⟩|fail
   apply Exists.intro
   apply And.intro
   ·refine ⟨N[k],rfl,?_⟩
    exact ⟨rfl,rfl⟩
   repeat' first|(refine fun (b:Bool) hb=>?_;cases b<;>first|exact absurd hb (by decide)|exact nfl hb|exact nfr hb|skip)|refine ⟨_,⟨rfl,rfl⟩,?_⟩|fail
   ·have h4:¬ zh_ N[k]≤p.out:=of_decide_eq_false (by assumption)
    conv=>whnf
    exact ⟨(),(by (refine qa_ ?_;refine Sel4.mk rfl rfl ?_ ?_<;>(repeat' first|exact True.intro|exact rfl|exact .inl rfl|exact .inr rfl|refine And.intro ?_ ?_|fail))),by rw [hgk];omega⟩
   ·have h4:zh_ N[k]≤p.out:=of_decide_eq_true (by assumption)
    rw [hgk,if_pos (by omega)] at hpg
    rw [←hpg,if_pos (show (5:Int)≠0 by decide)] at hgo
    conv=>whnf
    refine hK _ (congrArg (V.int .i64) ?_)
    exact hgo
  ·have h4:p.out<0:=of_decide_eq_true (by assumption)
   rw [if_pos (by omega)] at hpg
   rw [←hpg,if_pos (show (5:Int)≠0 by decide)] at hgo
   conv=>whnf
   refine hK _ (congrArg (V.int .i64) ?_)
   exact hgo
  ·have h4:(i:Int)≤p.node:=of_decide_eq_true (by assumption)
   rw [if_pos (by omega)] at hpg
   rw [←hpg,if_pos (show (5:Int)≠0 by decide)] at hgo
   conv=>whnf
   refine hK _ (congrArg (V.int .i64) ?_)
   exact hgo
  ·have h4:p.node<0:=of_decide_eq_true (by assumption)
   rw [if_pos (by omega)] at hpg
   rw [←hpg,if_pos (show (5:Int)≠0 by decide)] at hgo
   conv=>whnf
   refine hK _ (congrArg (V.int .i64) ?_)
   exact hgo
 ·rw [if_neg hok] at hpg
  obtain ⟨q,hq⟩:∃ q,mget false v [p.node,p.out]=q:=⟨_,rfl⟩
  rw [hq] at hpg
  conv=>whnf
  refine ⟨false,rfl,?_⟩
  conv =>
   arg 1
   rw [hq]
  cases q
  ·rw [if_neg (by decide)] at hpg
   repeat' first|refine And.intro (a:=I64 _) ?_ ?_|refine ⟨_,rfl,?_,rfl,?_⟩|fail
   ·rfl
   ·have hm:=(by assumption:N[i].ins.length≤MAXL)
    unfold MAXL at hm
    unfold I64;(try dsimp only);omega
   conv=>whnf
   exact ⟨(j+1,mput v [p.node,p.out] true),(by (refine qa_ ?_;refine Sel4.mk rfl rfl ?_ ?_<;>(repeat' first|exact True.intro|exact rfl|exact .inl rfl|exact .inr rfl|refine And.intro ?_ ?_|fail))),⟨hjl,hpg⟩,by show N[i].ins.length-(j+1)<N[i].ins.length-j;omega⟩
  ·rw [if_pos rfl] at hpg
   rw [←hpg,if_pos (show (6:Int)≠0 by decide)] at hgo
   conv=>whnf
   refine hK _ (congrArg (V.int .i64) ?_)
   exact hgo
end Gv
namespace Gv
variable [Glob] [Laid]
theorem qk2_:qb_ Tryz.prog 32=true:=by kernel_rfl
def qii_:Spec:=fun args K=>∃ l:List FileS,args=[.sl qq_ l]∧K (.int .i64 (qu_ l))
noncomputable def qt9_:List (Nat × Spec):=[(78,qtt_)]
noncomputable def qt8_:List (Nat × FnI):=[]
noncomputable def qk4_:List (Nat × qn_):=[]
theorem q4e_:EnvOK ⟨Tryz.prog,tys,qt9_,qt8_,qk4_,[]⟩:=qs_ qt_ tys0 (.cons qrj_ qrk_ .nil) .nil .nil rfl
theorem qk3_:Pure Tryz.prog 32 qii_:=by
 refine qp_ q4e_ 6 (fi:={fn:=Tryz.f32,hooks:=[],draws:=[(10,[0,1,3,7,7,23,63,127,255,7,519,2047,4095])]}) ⟨Tryz.func32,by kernel_rfl,by kernel_rfl⟩ ?_
 rintro _ K ⟨l,rfl,hK⟩
 replace hK:∀ r,r=.int .i64 (qu_ l)→K r:=fun r h=>h ▸ hK
 repeat' first|(refine fun (b:Bool) hb=>?_;cases b<;>first|exact absurd hb (by decide)|exact nfl hb|exact nfr hb|skip)|(refine fun (hl:_≤MAXL)=>?_)|fail
 rotate_left
 ·refine hK _ ?_
  have h:=of_decide_eq_true (by assumption:decide ((12:Int)<(l.length:Int))=true)
  unfold qu_
  rw [if_pos (by omega)]
 have h12:¬ 12<l.length:=by
  have h:=of_decide_eq_false (by assumption:decide ((12:Int)<(l.length:Int))=false)
  omega
 have hcf:qu_ l=xv_ none l:=by unfold qu_;rw [if_neg h12]
 rw [hcf] at hK
 conv=>whnf
 refine qg_ [0,8,9] (σ:=Nat) (fun i=>[(10,.int .i64 i)]) (fun i=>[]) (fun i=>i≤l.length∧xv_ (qaa_ l i) (l.drop i)=xv_ none l) (fun i=>l.length-i) 0 ?_
 conv=>whnf
 refine ⟨(by (refine qa_ ?_;refine Sel4.mk rfl rfl ?_ ?_<;>(repeat' first|exact True.intro|exact rfl|exact .inl rfl|exact .inr rfl|refine And.intro ?_ ?_|fail))),⟨Nat.zero_le _,rfl⟩,fun i hi=>?_⟩
 obtain ⟨hi,hg⟩:=hi
 repeat' first|(refine fun (b:Bool) hb=>?_;cases b<;>first|exact absurd hb (by decide)|exact nfl hb|exact nfr hb|skip)|refine ⟨_,rfl,?_,rfl,?_⟩|fail
 ·have h:=of_decide_eq_false (by assumption:decide ((i:Int)<(l.length:Int))=false)
  have e:l.drop i=[]:=List.drop_eq_nil_of_le (by omega)
  rw [e] at hg
  conv=>whnf
  refine hK _ ?_
  rw [←hg]
  rfl
 ·have h:=of_decide_eq_true (by assumption:decide ((i:Int)<(l.length:Int))=true)
  show i<l.length
  omega
 have hlt:i<l.length:=by
  have h:=of_decide_eq_true (by assumption:decide ((i:Int)<(l.length:Int))=true)
  omega
 rw [qhe_ hlt] at hg
 refine ⟨l[i].name,rfl,?_⟩
 repeat' first|(refine fun (b:Bool) hb=>?_;cases b<;>first|exact absurd hb (by decide)|exact nfl hb|exact nfr hb|skip)|(refine fun (hl:_≤MAXL)=>?_)|refine And.intro (a:=I64 _) ?_ ?_|refine ⟨_,⟨rfl,rfl⟩,?_⟩|refine ⟨_,And.intro (a:=I64 _) ?_ ⟨rfl,rfl⟩,?_⟩|fail
 ·unfold I64;omega
 ·have h1:q9_ l[i].name=true := by
   have h:(!q9_ l[i].name)=false:=by assumption
   simpa using h
  have h2:¬ (4000:Int)<(l[i].b.length:Int):=of_decide_eq_false (by assumption)
  have h3:¬ (0:Int)<(i:Int):=of_decide_eq_false (by assumption)
  have e0:i=0:=by omega
  have h4:vb_ (qaa_ l i) l[i].name=false:=by
   have:qaa_ l i=none:=by unfold qaa_;rw [if_pos e0]
   rw [this];rfl
  rw [if_neg (by rw [h1];decide),if_neg (by omega),if_neg (by rw [h4];decide)] at hg
  exact ⟨i+1,(by (refine qa_ ?_;refine Sel4.mk rfl rfl ?_ ?_<;>(repeat' first|exact True.intro|exact rfl|exact .inl rfl|exact .inr rfl|refine And.intro ?_ ?_|fail))),⟨hlt,hg⟩,by omega⟩
 ·unfold I64;omega
 ·have h1:q9_ l[i].name=true := by
   have h:(!q9_ l[i].name)=false:=by assumption
   simpa using h
  have h2:¬ (4000:Int)<(l[i].b.length:Int):=of_decide_eq_false (by assumption)
  have h3:(0:Int)<(i:Int):=of_decide_eq_true (by assumption)
  have hp:qaa_ l i=some (l[i-1]'(by omega)).name:=by
   unfold qaa_
   rw [if_neg (by omega),List.getD_eq_getElem?_getD,List.getElem?_eq_getElem (by omega)]
   rfl
  rw [if_neg (by rw [h1];decide),if_neg (by omega),hp] at hg
  conv=>whnf
  refine ⟨_,⟨i-1,by omega,by omega,rfl,rfl,rfl⟩,?_⟩
  repeat' first|exact True.intro|(refine fun (b:Bool) hb=>?_;cases b<;>first|exact absurd hb (by decide)|exact nfl hb|exact nfr hb|skip)|refine And.intro (a:=I64 _) ?_ ?_|refine ⟨_,⟨rfl,rfl⟩,?_⟩|refine And.intro (a:=qj_ _ _ _ _ _ _ _ _) ?_ ?_|fail
  ·unfold I64;omega
  ·have h4:vb_ (some (l[i-1]'(by omega)).name) l[i].name=false := by
    have h:(!Op.bytesLess (l[i-1]'(by omega)).name l[i].name)=false:=by assumption
    exact h
   rw [if_neg (by rw [h4];decide)] at hg
   exact ⟨i+1,(by (refine qa_ ?_;refine Sel4.mk rfl rfl ?_ ?_<;>(repeat' first|exact True.intro|exact rfl|exact .inl rfl|exact .inr rfl|refine And.intro ?_ ?_|fail))),⟨hlt,hg⟩,by omega⟩
  ·have h4:vb_ (some (l[i-1]'(by omega)).name) l[i].name=true := by
    have h:(!Op.bytesLess (l[i-1]'(by omega)).name l[i].name)=true:=by assumption
    exact h
   rw [if_pos h4] at hg
   conv=>whnf
   exact hK _ (by rw [←hg])
 ·have h1:q9_ l[i].name=true := by
   have h:(!q9_ l[i].name)=false:=by assumption
   simpa using h
  have h2:(4000:Int)<(l[i].b.length:Int):=of_decide_eq_true (by assumption)
  rw [if_neg (by rw [h1];decide),if_pos (by omega)] at hg
  conv=>whnf
  exact hK _ (by rw [←hg])
 ·have h1:q9_ l[i].name=false := by
   have h:(!q9_ l[i].name)=true:=by assumption
   simpa using h
  rw [if_pos h1] at hg
  conv=>whnf
  exact hK _ (by rw [←hg])
end Gv
namespace Gv
variable [Glob] [Laid]
def q7_ (m:MachS):V:=.agg [.sl qh_ m.g,.sl qq_ m.f,.sl qk_ m.pipes,.sl zf_ m.p,.sl qd_ m.sunk]
theorem qcs_:qb_ Tryz.prog 41=true:=by kernel_rfl
def qbq_:Spec:=fun args K=>∃ (m:MachS),args=[q7_ m]∧K (.int .i64 (qm_ m))
noncomputable def qol_:List (Nat × Spec):=[(62,qik_),(32,qii_),(21,qcu_),(95,qb3_),(96,qld_)]
noncomputable def qok_:List (Nat × FnI):=[]
noncomputable def qin_:List (Nat × qn_):=[]
theorem qx6_:EnvOK ⟨Tryz.prog,tys,qol_,qok_,qin_,[]⟩:=qs_ qt_ tys0 (.cons qk6_ qk7_ (.cons qk2_ qk3_ (.cons qbr_ qbs_ (.cons qc5_ qc6_ (.cons qum_ qun_ .nil))))) .nil .nil rfl
theorem qct_:Pure Tryz.prog 41 qbq_:=by
 refine qp_ qx6_ 6 (fi:={fn:=Tryz.f41,hooks:=[4,7,9],draws:=[(7,[0,1,3,0,8,24,56,127,255,511,1023,2047,511,4607,511,16895,49663,115199,258559,524287,1048575]),(19,[0,1,3,0,15,31,0,127,255])]}) ⟨Tryz.func41,by kernel_rfl,by kernel_rfl⟩ ?_
 rintro _ K ⟨m,rfl,hK⟩
 replace hK:∀ r,r=.int .i64 (qm_ m)→K r:=fun r h=>h ▸ hK
 conv=>whnf
 refine ql_ [1] (σ:=Unit) (fun _=>[(1,.ptr 0 0 0)]) (fun _=>[.box (q7_ m).cells]) (fun _=>zt_ m.g=0) ?_
 conv=>whnf
 refine ⟨?_,fun _ hg=>?_⟩
 ·conv=>whnf
  refine ⟨m.g,rfl,?_⟩
  repeat' first|(refine fun (b:Bool) hb=>?_;cases b<;>first|exact absurd hb (by decide)|exact nfl hb|exact nfr hb|skip)|fail
  ·exact ⟨(),(by (refine qa_ ?_;refine Sel4.mk rfl rfl ?_ ?_<;>(repeat' first|exact True.intro|exact rfl|exact .inl rfl|exact .inr rfl|refine And.intro ?_ ?_|fail))),by simpa using ‹(!decide (zt_ m.g=0))=false›⟩
  ·have h:zt_ m.g≠0:=by simpa using ‹(!decide (zt_ m.g=0))=true›
   conv=>whnf
   refine hK _ ?_
   unfold qm_
   rw [if_pos h]
 conv=>whnf
 refine ql_ [1] (σ:=Unit) (fun _=>[]) (fun _=>[.box (q7_ m).cells]) (fun _=>qu_ m.f=0) ?_
 conv=>whnf
 refine ⟨?_,fun _ hf=>?_⟩
 ·conv=>whnf
  refine ⟨m.f,rfl,?_⟩
  repeat' first|(refine fun (b:Bool) hb=>?_;cases b<;>first|exact absurd hb (by decide)|exact nfl hb|exact nfr hb|skip)|fail
  ·exact ⟨(),(by (refine qa_ ?_;refine Sel4.mk rfl rfl ?_ ?_<;>(repeat' first|exact True.intro|exact rfl|exact .inl rfl|exact .inr rfl|refine And.intro ?_ ?_|fail))),by simpa using ‹(!decide (qu_ m.f=0))=false›⟩
  ·have h:qu_ m.f≠0:=by simpa using ‹(!decide (qu_ m.f=0))=true›
   conv=>whnf
   refine hK _ ?_
   unfold qm_
   rw [if_neg (by rw [hg];decide),if_pos h]
 have hgf:=gf_of hg
 have hin:=yi_ m.g
 have c4:(m.p.length≠m.g.length∨m.pipes.length≠(qr_ m.g).length)→V.int .i64 4=V.int .i64 (qm_ m):=fun h=>by unfold qm_;rw [if_neg (by rw [hg];decide),if_neg (by rw [hf];decide),if_pos h]
 conv=>whnf
 refine ql_ [1] (σ:=Unit) (fun _=>[]) (fun _=>[.box (q7_ m).cells]) (fun _=>¬ (m.p.length≠m.g.length∨m.pipes.length≠(qr_ m.g).length)) ?_
 conv=>whnf
 refine ⟨?_,fun _ hl=>?_⟩
 ·conv=>whnf
  repeat' first|exact True.intro|(refine fun (b:Bool) hb=>?_;cases b<;>first|exact absurd hb (by decide)|exact nfl hb|exact nfr hb|skip)|refine ⟨_,⟨rfl,rfl⟩,?_⟩|refine ⟨_,(fun _=>⟨rfl,rfl⟩),?_⟩|refine And.intro (a:=qj_ _ _ _ _ _ _ _ _) ?_ ?_|fail
  ·conv=>whnf
   apply Exists.intro
   apply And.intro
   ·refine ⟨m.g,m.g.length,rfl,⟨Nat.le_refl _,z0_ hg⟩,?_⟩
    exact ⟨rfl,rfl⟩
   rw [hin]
   conv=>whnf
   repeat' first|(refine fun (b:Bool) hb=>?_;cases b<;>first|exact absurd hb (by decide)|exact nfl hb|exact nfr hb|skip)|refine ⟨_,⟨rfl,rfl⟩,?_⟩|fail
   all_goals (try (conv=>whnf))
   all_goals (skip)
   all_goals first
    | exact hK _ (c4 (by grind))
    | exact ⟨(),(by (refine qa_ ?_;refine Sel4.mk rfl rfl ?_ ?_<;>(repeat' first|exact True.intro|exact rfl|exact .inl rfl|exact .inr rfl|refine And.intro ?_ ?_|fail))),by grind⟩
  ·conv=>whnf
   all_goals (try (conv=>whnf))
   all_goals (skip)
   all_goals exact hK _ (c4 (by grind))
 have hbase:qm_ m=if zu_ m.pipes≠0 then zu_ m.pipes else if zr_ m.g m.p≠0 then zr_ m.g m.p else if 40000<m.sunk.length then 2 else 0:=by
  unfold qm_
  rw [if_neg (by rw [hg];decide),if_neg (by rw [hf];decide),if_neg hl]
 conv=>whnf
 repeat' first|(refine fun (hl:_≤MAXL)=>?_)|fail
 conv=>whnf
 refine qg_ [1,45,46] (σ:=Nat) (fun k=>[(47,.int .i64 k)]) (fun _=>[.box (q7_ m).cells]) (fun k=>k≤m.pipes.length∧zu_ (m.pipes.drop k)=zu_ m.pipes) (fun k=>m.pipes.length-k) 0 ?_
 conv=>whnf
 refine ⟨(by (refine qa_ ?_;refine Sel4.mk rfl rfl ?_ ?_<;>(repeat' first|exact True.intro|exact rfl|exact .inl rfl|exact .inr rfl|refine And.intro ?_ ?_|fail))),⟨Nat.zero_le _,rfl⟩,fun k hk=>?_⟩
 obtain ⟨hk,hno⟩:=hk
 repeat' first|(refine fun (b:Bool) hb=>?_;cases b<;>first|exact absurd hb (by decide)|exact nfl hb|exact nfr hb|skip)|(refine fun (hl:_≤MAXL)=>?_)|refine ⟨_,rfl,?_,rfl,?_⟩|fail
 rotate_left
 ·have h:=of_decide_eq_true (by assumption:decide ((k:Int)<(m.pipes.length:Int))=true)
  omega
 ·have hk2:k<m.pipes.length := by
   have h:=of_decide_eq_true (by assumption:decide ((k:Int)<(m.pipes.length:Int))=true)
   omega
  have hst:zu_ (m.pipes.drop k)=if qi_ m.pipes[k]≠0 then qi_ m.pipes[k] else zu_ (m.pipes.drop (k+1)):=by
   rw [List.drop_eq_getElem_cons hk2];rfl
  rw [hno] at hst
  conv=>whnf
  refine ⟨m.pipes[k],rfl,?_⟩
  rw [z9_]
  repeat' first|(refine fun (b:Bool) hb=>?_;cases b<;>first|exact absurd hb (by decide)|exact nfl hb|exact nfr hb|skip)|refine And.intro (a:=I64 _) ?_ ?_|fail
  ·have hM:m.pipes.length≤MAXL:=by assumption
   unfold I64;unfold MAXL at hM;omega
  ·have h0:qi_ m.pipes[k]=0:=by simpa using ‹(!decide (qi_ m.pipes[k]=0))=false›
   rw [if_neg (by rw [h0];decide)] at hst
   exact ⟨k+1,(by (refine qa_ ?_;refine Sel4.mk rfl rfl ?_ ?_<;>(repeat' first|exact True.intro|exact rfl|exact .inl rfl|exact .inr rfl|refine And.intro ?_ ?_|fail))),⟨hk2,hst.symm⟩,by omega⟩
  ·have h0:qi_ m.pipes[k]≠0:=by simpa using ‹(!decide (qi_ m.pipes[k]=0))=true›
   rw [if_pos h0] at hst
   conv=>whnf
   refine hK _ ?_
   rw [hbase,hst,if_pos h0]
 have hkl:k=m.pipes.length:=by
  have h:=of_decide_eq_false (by assumption:decide ((k:Int)<(m.pipes.length:Int))=false)
  omega
 subst hkl
 rw [List.drop_length] at hno
 have hp0:zu_ m.pipes=0:=by rw [←hno];rfl
 rw [if_neg (by rw [hp0];decide)] at hbase
 conv=>whnf
 refine qg_ [1,58,59] (σ:=Nat) (fun k=>[(60,.int .i64 k)]) (fun _=>[.box (q7_ m).cells]) (fun k=>k≤m.p.length∧zr_ (m.g.drop k) (m.p.drop k)=zr_ m.g m.p) (fun k=>m.p.length-k) 0 ?_
 conv=>whnf
 refine ⟨(by (refine qa_ ?_;refine Sel4.mk rfl rfl ?_ ?_<;>(repeat' first|exact True.intro|exact rfl|exact .inl rfl|exact .inr rfl|refine And.intro ?_ ?_|fail))),⟨Nat.zero_le _,rfl⟩,fun k hk=>?_⟩
 obtain ⟨hk,hno⟩:=hk
 have hpl:m.p.length=m.g.length:=by omega
 have hend:k=m.p.length→zr_ m.g m.p=0:=fun e=>by
  rw [←hno,e,List.drop_length]
  cases m.g.drop m.p.length<;>rfl
 have hst:∀ (hk2:k<m.p.length) (hk3:k<m.g.length),zr_ m.g m.p=if q0_ m.g[k] m.p[k]≠0 then q0_ m.g[k] m.p[k] else zr_ (m.g.drop (k+1)) (m.p.drop (k+1)):=fun hk2 hk3=>by
  rw [←hno,List.drop_eq_getElem_cons hk2,List.drop_eq_getElem_cons hk3];rfl
 repeat' first|exact True.intro|(refine fun (b:Bool) hb=>?_;cases b<;>first|exact absurd hb (by decide)|exact nfl hb|exact nfr hb|skip)|(refine fun (hl:_≤MAXL)=>?_)|refine ⟨_,⟨rfl,rfl⟩,?_⟩|refine And.intro (a:=qj_ _ _ _ _ _ _ _ _) ?_ ?_|refine ⟨_,⟨_,rfl,?_,rfl,rfl,rfl⟩,?_⟩|refine ⟨_,rfl,?_,rfl,?_⟩|fail
 ·have hkl := hend (by
   have h:=of_decide_eq_false (by assumption:decide ((k:Int)<(m.p.length:Int))=false)
   omega)
  conv=>whnf
  refine hK _ ?_
  rw [hbase,if_neg (by rw [hkl];decide),if_neg]
  have h:=of_decide_eq_false (by assumption:decide (40000<(m.sunk.length:Int))=false)
  omega
 ·have hkl := hend (by
   have h:=of_decide_eq_false (by assumption:decide ((k:Int)<(m.p.length:Int))=false)
   omega)
  conv=>whnf
  refine hK _ ?_
  rw [hbase,if_neg (by rw [hkl];decide),if_pos]
  have h:=of_decide_eq_true (by assumption:decide (40000<(m.sunk.length:Int))=true)
  omega
 all_goals
  have hk2:k<m.p.length:=by
   have h:=of_decide_eq_true (by assumption:decide ((k:Int)<(m.p.length:Int))=true)
   omega
 ·exact hk2
 ·omega
 have hk3:k<m.g.length:=by omega
 have hst:=hst hk2 hk3
 have hcn:=hgf.node k hk3
 rw [xb_ hk3] at hcn
 conv=>whnf
 apply Exists.intro
 apply And.intro
 ·refine ⟨m.g[k],m.p[k],rfl,hcn,?_⟩
  exact ⟨rfl,rfl⟩
 conv=>whnf
 repeat' first|(refine fun (b:Bool) hb=>?_;cases b<;>first|exact absurd hb (by decide)|exact nfl hb|exact nfr hb|skip)|refine And.intro (a:=I64 _) ?_ ?_|refine ⟨_,⟨rfl,rfl⟩,?_⟩|fail
 ·have hM:m.p.length≤MAXL:=by assumption
  unfold I64;unfold MAXL at hM;omega
 ·have h0:q0_ m.g[k] m.p[k]=0:=by simpa using ‹(!decide (q0_ m.g[k] m.p[k]=0))=false›
  rw [if_neg (by rw [h0];decide)] at hst
  exact ⟨k+1,(by (refine qa_ ?_;refine Sel4.mk rfl rfl ?_ ?_<;>(repeat' first|exact True.intro|exact rfl|exact .inl rfl|exact .inr rfl|refine And.intro ?_ ?_|fail))),⟨hk2,hst.symm⟩,by omega⟩
 ·have h0:q0_ m.g[k] m.p[k]≠0:=by simpa using ‹(!decide (q0_ m.g[k] m.p[k]=0))=true›
  rw [if_pos h0] at hst
  conv=>whnf
  refine hK _ ?_
  rw [hbase,hst,if_pos h0]
end Gv
namespace Gv
variable [Glob] [Laid]
theorem qut_:qb_ Tryz.prog 127=true:=by kernel_rfl
def qll_:Spec:=fun args K=>∃ a:List Port,args=[.sl ww_ a]∧a.length≤1000000000∧K (.sl ww_ a)
noncomputable def qou_:List (Nat × Spec):=[]
noncomputable def qot_:List (Nat × FnI):=[]
noncomputable def qiq_:List (Nat × qn_):=[]
theorem qyc_:EnvOK ⟨Tryz.prog,tys,qou_,qot_,qiq_,[]⟩:=qs_ qt_ tys0 .nil .nil .nil rfl
theorem quu_:Pure Tryz.prog 127 qll_:=by
 refine qp_ qyc_ 6 (fi:={fn:=Tryz.f127,hooks:=[],draws:=[]}) ⟨Tryz.func127,by kernel_rfl,by kernel_rfl⟩ ?_
 rintro _ K ⟨a,rfl,hx,hK⟩
 replace hK:∀ r,r=.sl ww_ a→K r:=fun r h=>h ▸ hK
 repeat' first|refine ⟨_,_,_,LeL.refl _,?_⟩|(refine fun (b:Bool) hb=>?_;cases b<;>first|exact absurd hb (by decide)|exact nfl hb|exact nfr hb|skip)|refine And.intro (a:=_≤140737488355328) ?_ ?_|refine ⟨(fun _=>rfl),?_⟩|refine ⟨Port,ww_,?_⟩|fail
 ·show (0+(a.map ww_).length)*16≤140737488355328
  rw [List.length_map]
  omega
 ·exact hK _ rfl
 ·have e:true=true→a=[]:=by assumption
  have e:=e rfl
  subst e
  exact hK _ rfl
end Gv
namespace Gv
variable [Glob] [Laid]
theorem qhb_:qb_ Tryz.prog 63=true:=by kernel_rfl
def qex_:Spec:=fun args K=>∃ (l:List Gp.Node),args=[.agg [.sl qh_ l]]∧(l.length≤1000∧∀ n∈l,n.ins.length≤1000000000)∧K (.agg [.sl qh_ l])
noncomputable def qo7_:List (Nat × Spec):=[(127,qll_)]
noncomputable def qo6_:List (Nat × FnI):=[(126,{fn:=Tryz.f126,hooks:=[],draws:=[]})]
noncomputable def qiw_:List (Nat × qn_):=[]
theorem qyl_:EnvOK ⟨Tryz.prog,tys,qo7_,qo6_,qiw_,[]⟩:=qs_ qt_ tys0 (.cons qut_ quu_ .nil) (.cons (by kernel_rfl) ⟨Tryz.func126,by kernel_rfl,by kernel_rfl⟩ .nil) .nil rfl
theorem qhc_:Pure Tryz.prog 63 qex_:=by
 refine qp_ qyl_ 6 (fi:={fn:=Tryz.f63,hooks:=[2],draws:=[(5,[0,1,0,0,8,24,63,127,255])]}) ⟨Tryz.func63,by kernel_rfl,by kernel_rfl⟩ ?_
 rintro _ K ⟨l,rfl,⟨hl0,hfb⟩,hK⟩
 replace hK:∀ r,r=.agg [.sl qh_ l]→K r:=fun r h=>h ▸ hK
 conv=>whnf
 refine ql_ [1,2] (σ:=Unit) (fun _=>[(1,.ptr 0 0 0),(2,.ptr 1 0 0)]) (fun _=>[.box [.own 2],.box [.nil],.row 8 (l.map qh_)]) (fun _=>True) ?_
 conv=>whnf
 refine ⟨?_,fun _ _=>?_⟩
 ·repeat' first|(refine fun (b:Bool) hb=>?_;cases b<;>first|exact absurd hb (by decide)|exact nfl hb|exact nfr hb|skip)|refine And.intro (a:=_≤140737488355328) ?_ ?_|refine ⟨(fun _=>rfl),?_⟩|fail
  ·show (0+(l.map qh_).length)*96≤140737488355328
   rw [List.length_map]
   omega
  ·exact ⟨(),(by (refine qa_ ?_;refine Sel4.mk rfl rfl ?_ ?_<;>(repeat' first|exact True.intro|exact rfl|exact .inl rfl|exact .inr rfl|refine And.intro ?_ ?_|fail))),trivial⟩
  ·have h:true=true→l=[]:=by assumption
   rw [h rfl]
   exact ⟨(),(by (refine qa_ ?_;refine Sel4.mk rfl rfl ?_ ?_<;>(repeat' first|exact True.intro|exact rfl|exact .inl rfl|exact .inr rfl|refine And.intro ?_ ?_|fail))),trivial⟩
 conv=>whnf
 repeat' first|(refine fun (hl:_≤MAXL)=>?_)|fail
 conv=>whnf
 refine qg_ [1,2,10,11] (σ:=Nat) (fun i=>[(12,.int .i64 i)]) (fun _=>[.box [.own 2],.box [.nil],.row 8 (l.map qh_)]) (fun i=>i≤l.length) (fun i=>l.length-i) 0 ?_
 conv=>whnf
 refine ⟨(by (refine qf_ [some 0,some 1,some 2] rfl rfl ?_ ?_<;>(repeat' first|exact True.intro|exact rfl|exact .inl rfl|exact .inr rfl|refine And.intro ?_ ?_|fail))),Nat.zero_le _,fun i hi=>?_⟩
 repeat' first|refine ⟨_,_,_,LeL.refl _,?_⟩|(refine fun (b:Bool) hb=>?_;cases b<;>first|exact absurd hb (by decide)|exact nfl hb|exact nfr hb|skip)|refine ⟨rfl,?_⟩|fail
 ·conv=>whnf
  exact hK _ rfl
 have hlt:i<l.length:=by
  have h:=of_decide_eq_true (by assumption:decide ((i:Int)<((l.map qh_).length:Int))=true)
  rw [List.length_map] at h
  omega
 have hg:(l.map qh_)[i]?=some (qh_ l[i]):=by rw [List.getElem?_map,List.getElem?_eq_getElem hlt];rfl
 have hlm:i<(l.map qh_).length:=by rw [List.length_map];exact hlt
 refine ⟨i,rfl,hlm,?_⟩
 conv=>whnf
 refine ⟨_,hg,?_⟩
 repeat' first|exact True.intro|refine ⟨_,⟨rfl,rfl⟩,?_⟩|refine And.intro (a:=qj_ _ _ _ _ _ _ _ _) ?_ ?_|fail
 conv=>whnf
 apply Exists.intro
 apply And.intro
 ·refine ⟨l[i].ins,rfl,hfb _ (List.getElem_mem hlt),?_⟩
  exact ⟨rfl,rfl⟩
 conv=>whnf
 apply Exists.intro
 apply And.intro
 ·refine ⟨rfl,i,rfl,hlm,?_⟩
  exact ⟨rfl,rfl⟩
 conv=>whnf
 refine ⟨trivial,?_⟩
 conv=>whnf
 repeat' first|refine ⟨_,⟨rfl,rfl⟩,?_⟩|fail
 apply Exists.intro
 apply Exists.intro
 apply And.intro
 ·conv=>whnf
  refine ⟨_,hg,?_⟩
  exact ⟨rfl,rfl⟩
 conv=>whnf
 repeat' first|exact True.intro|refine And.intro (a:=I64 _) ?_ ?_|refine And.intro (a:=qx_ _ _ _ _ _ _) ?_ ?_|fail
 ·have hM:(l.map qh_).length≤MAXL:=by assumption
  rw [List.length_map] at hM
  unfold I64;unfold MAXL at hM;omega
 refine ⟨i+1,?_,hlt,by omega⟩
 refine qf_ [some 0,some 1,some 2] rfl rfl ?_ ?_<;>(repeat' first|exact True.intro|exact rfl|exact .inl rfl|exact .inr rfl|refine And.intro ?_ ?_|fail)
 have e:(l.map qh_).set i (qh_ l[i])=l.map qh_:=by
  have:(l.map qh_)[i]'hlm=qh_ l[i]:=by simp
  rw [←this,List.set_getElem_self]
 show Row.row 8 (l.map qh_)=Row.row 8 ((l.map qh_).set i (qh_ l[i]))
 rw [e]
end Gv
namespace Gv
variable [Glob] [Laid]
theorem qr4_:qb_ Tryz.prog 64=true:=by kernel_rfl
def qo8_:Spec:=fun args K=>∃ (l:List FileS),args=[.sl qq_ l]∧(l.length≤1000∧∀ f∈l,f.b.length≤1000000000)∧K (.sl qq_ l)
noncomputable def qyn_:List (Nat × Spec):=[(66,yg_)]
noncomputable def qym_:List (Nat × FnI):=[(128,{fn:=Tryz.f128,hooks:=[],draws:=[]})]
noncomputable def qo9_:List (Nat × qn_):=[]
theorem q9e_:EnvOK ⟨Tryz.prog,tys,qyn_,qym_,qo9_,[]⟩:=qs_ qt_ tys0 (.cons x1_ x2_ .nil) (.cons (by kernel_rfl) ⟨Tryz.func128,by kernel_rfl,by kernel_rfl⟩ .nil) .nil rfl
theorem qr5_:Pure Tryz.prog 64 qo8_:=by
 refine qp_ q9e_ 6 (fi:={fn:=Tryz.f64,hooks:=[2],draws:=[]}) ⟨Tryz.func64,by kernel_rfl,by kernel_rfl⟩ ?_
 rintro _ K ⟨l,rfl,⟨hl0,hfb⟩,hK⟩
 replace hK:∀ r,r=.sl qq_ l→K r:=fun r h=>h ▸ hK
 conv=>whnf
 refine ql_ [] (σ:=Unit) (fun _=>[(0,.own 0)]) (fun _=>[.row 2 (l.map qq_)]) (fun _=>True) ?_
 conv=>whnf
 refine ⟨?_,fun _ _=>?_⟩
 ·repeat' first|(refine fun (b:Bool) hb=>?_;cases b<;>first|exact absurd hb (by decide)|exact nfl hb|exact nfr hb|skip)|refine And.intro (a:=_≤140737488355328) ?_ ?_|refine ⟨(fun _=>rfl),?_⟩|fail
  ·show (0+(l.map qq_).length)*40≤140737488355328
   rw [List.length_map]
   omega
  ·exact ⟨(),(by (refine qa_ ?_;refine Sel4.mk rfl rfl ?_ ?_<;>(repeat' first|exact True.intro|exact rfl|exact .inl rfl|exact .inr rfl|refine And.intro ?_ ?_|fail))),trivial⟩
  ·have h:true=true→l=[]:=by assumption
   rw [h rfl]
   exact ⟨(),(by (refine qa_ ?_;refine Sel4.mk rfl rfl ?_ ?_<;>(repeat' first|exact True.intro|exact rfl|exact .inl rfl|exact .inr rfl|refine And.intro ?_ ?_|fail))),trivial⟩
 repeat' first|(refine fun (hl:_≤MAXL)=>?_)|fail
 conv=>whnf
 refine qg_ [0,7,8] (σ:=Nat) (fun i=>[(9,.int .i64 i)]) (fun i=>[.row 2 (l.map qq_)]) (fun i=>i≤l.length) (fun i=>l.length-i) 0 ?_
 conv=>whnf
 refine ⟨(by (refine qa_ ?_;refine Sel4.mk rfl rfl ?_ ?_<;>(repeat' first|exact True.intro|exact rfl|exact .inl rfl|exact .inr rfl|refine And.intro ?_ ?_|fail))),Nat.zero_le _,fun i hi=>?_⟩
 repeat' first|refine ⟨_,_,_,LeL.refl _,?_⟩|(refine fun (b:Bool) hb=>?_;cases b<;>first|exact absurd hb (by decide)|exact nfl hb|exact nfr hb|skip)|refine ⟨rfl,?_⟩|fail
 ·conv=>whnf
  exact hK _ rfl
 have hlt:i<l.length:=by
  have h:=of_decide_eq_true (by assumption:decide ((i:Int)<((l.map qq_).length:Int))=true)
  rw [List.length_map] at h
  omega
 have hg:(l.map qq_)[i]?=some (qq_ l[i]):=by rw [List.getElem?_map,List.getElem?_eq_getElem hlt];rfl
 have hlm:i<(l.map qq_).length:=by rw [List.length_map];exact hlt
 refine ⟨i,rfl,hlm,?_⟩
 conv=>whnf
 refine ⟨_,hg,?_⟩
 repeat' first|refine ⟨_,rfl,?_,rfl,?_⟩|fail
 ·exact hfb _ (List.getElem_mem hlt)
 refine ⟨i,rfl,hlm,?_⟩
 conv=>whnf
 refine ⟨_,hg,?_⟩
 repeat' first|refine And.intro (a:=I64 _) ?_ ?_|fail
 ·have hl1:(l.map qq_).length≤MAXL:=by assumption
  unfold I64;omega
 refine ⟨i+1,?_,hlt,by omega⟩
 (refine qa_ ?_;refine Sel4.mk rfl rfl ?_ ?_<;>(repeat' first|exact True.intro|exact rfl|exact .inl rfl|exact .inr rfl|refine And.intro ?_ ?_|fail))
 have e:(l.map qq_).set i (qq_ l[i])=l.map qq_:=by
  have:(l.map qq_)[i]'hlm=qq_ l[i]:=by simp
  rw [←this,List.set_getElem_self]
 show Row.row 2 (l.map qq_)=Row.row 2 ((l.map qq_).set i (qq_ l[i]))
 rw [e]
end Gv
namespace Gv
variable [Glob] [Laid]
theorem qos_:qb_ Tryz.prog 117=true:=by kernel_rfl
def qus_:qn_:=fun args rows K=>∃ (l:List PipeS),args=[.sl qk_ l]∧rows=[]∧l.length≤1000000000∧K (.own 1) [.dead,.row 4 (l.map qk_)]∧(l=[]→K .nil [])
noncomputable def qli_:List (Nat × Spec):=[]
noncomputable def qlh_:List (Nat × FnI):=[]
noncomputable def qgj_:List (Nat × qn_):=[]
theorem qur_:EnvOK ⟨Tryz.prog,tys,qli_,qlh_,qgj_,[]⟩:=qs_ qt_ tys0 .nil .nil .nil rfl
theorem qip_:q1_ Tryz.prog 117 qus_:=by
 refine xm_ qur_ 6 qos_ (fi:={fn:=Tryz.f117,hooks:=[],draws:=[]}) ⟨Tryz.func117,by kernel_rfl,by kernel_rfl⟩ ?_
 rintro args rows K ⟨l,rfl,rfl,hl,hK,hN⟩
 repeat' first|(refine fun (b:Bool) hb=>?_;cases b<;>first|exact absurd hb (by decide)|exact nfl hb|exact nfr hb|skip)|refine And.intro (a:=_≤140737488355328) ?_ ?_|refine ⟨(fun _=>rfl),?_⟩|fail
 ·show (0+(l.map qk_).length)*40≤140737488355328
  rw [List.length_map];omega
 ·exact hK
 ·have h:true=true→l=[]:=by assumption
  exact hN (h rfl)
end Gv
namespace Gv
variable [Glob] [Laid]
def qlj_:qn_:=fun args rows K=>∃ (l:List PipeS),args=[.sl qk_ l]∧rows=[]∧l.length≤1000000000∧K (.own 1) [.dead,.row 4 (l.map qk_)]
theorem qlk_:q1_ Tryz.prog 117 qlj_:=by
 intro w0 m0 args rows K R m q w us C hv hT
 obtain ⟨l,rfl,rfl,hl,hK⟩:=hT
 refine qs5_ qip_ w0 m0 _ _ K R m q w us C hv ⟨l,rfl,rfl,hl,.inl hK,fun h=>.inr ⟨rfl,4,?_⟩⟩
 subst h
 exact hK
end Gv
namespace Gv
variable [Glob] [Laid]
theorem qov_:qb_ Tryz.prog 118=true:=by kernel_rfl
def quw_:qn_:=fun args rows K=>∃ (l:List ProcS),args=[.sl zf_ l]∧rows=[]∧l.length≤1000000000∧K (.own 1) [.dead,.row 5 (l.map zf_)]∧(l=[]→K .nil [])
noncomputable def qln_:List (Nat × Spec):=[]
noncomputable def qlm_:List (Nat × FnI):=[]
noncomputable def qgk_:List (Nat × qn_):=[]
theorem quv_:EnvOK ⟨Tryz.prog,tys,qln_,qlm_,qgk_,[]⟩:=qs_ qt_ tys0 .nil .nil .nil rfl
theorem qir_:q1_ Tryz.prog 118 quw_:=by
 refine xm_ quv_ 6 qov_ (fi:={fn:=Tryz.f118,hooks:=[],draws:=[]}) ⟨Tryz.func118,by kernel_rfl,by kernel_rfl⟩ ?_
 rintro args rows K ⟨l,rfl,rfl,hl,hK,hN⟩
 repeat' first|(refine fun (b:Bool) hb=>?_;cases b<;>first|exact absurd hb (by decide)|exact nfl hb|exact nfr hb|skip)|refine And.intro (a:=_≤140737488355328) ?_ ?_|refine ⟨(fun _=>rfl),?_⟩|fail
 ·show (0+(l.map zf_).length)*64≤140737488355328
  rw [List.length_map];omega
 ·exact hK
 ·have h:true=true→l=[]:=by assumption
  exact hN (h rfl)
end Gv
namespace Gv
variable [Glob] [Laid]
def qlo_:qn_:=fun args rows K=>∃ (l:List ProcS),args=[.sl zf_ l]∧rows=[]∧l.length≤1000000000∧K (.own 1) [.dead,.row 5 (l.map zf_)]
theorem qlp_:q1_ Tryz.prog 118 qlo_:=by
 intro w0 m0 args rows K R m q w us C hv hT
 obtain ⟨l,rfl,rfl,hl,hK⟩:=hT
 refine qs5_ qir_ w0 m0 _ _ K R m q w us C hv ⟨l,rfl,rfl,hl,.inl hK,fun h=>.inr ⟨rfl,5,?_⟩⟩
 subst h
 exact hK
end Gv
namespace Gv
variable [Glob] [Laid]
theorem q0i_:qb_ Tryz.prog 115=true:=by kernel_rfl
def qsq_:qn_:=fun args rows K=>∃ (l:List Bs),args=[.sl blV l]∧rows=[]∧(l.length≤1000000000∧∀ b∈l,b.length≤1000000000)∧K (.own 0) [.row 1 (l.map blV)]
noncomputable def qvv_:List (Nat × Spec):=[(66,yg_)]
noncomputable def qvu_:List (Nat × FnI):=[(116,{fn:=Tryz.f116,hooks:=[],draws:=[]})]
noncomputable def qml_:List (Nat × qn_):=[]
theorem q5s_:EnvOK ⟨Tryz.prog,tys,qvv_,qvu_,qml_,[]⟩:=qs_ qt_ tys0 (.cons x1_ x2_ .nil) (.cons (by kernel_rfl) ⟨Tryz.func116,by kernel_rfl,by kernel_rfl⟩ .nil) .nil rfl
theorem qp0_:q1_ Tryz.prog 115 qsq_:=by
 refine xm_ q5s_ 6 q0i_ (fi:={fn:=Tryz.f115,hooks:=[2],draws:=[]}) ⟨Tryz.func115,by kernel_rfl,by kernel_rfl⟩ ?_
 rintro args rows K ⟨l,rfl,rfl,⟨hl0,hfb⟩,hK⟩
 conv=>whnf
 refine ql_ [] (σ:=Unit) (fun _=>[(0,.own 0)]) (fun _=>[.row 1 (l.map blV)]) (fun _=>True) ?_
 conv=>whnf
 refine ⟨?_,fun _ _=>?_⟩
 ·repeat' first|(refine fun (b:Bool) hb=>?_;cases b<;>first|exact absurd hb (by decide)|exact nfl hb|exact nfr hb|skip)|refine And.intro (a:=_≤140737488355328) ?_ ?_|refine ⟨(fun _=>rfl),?_⟩|fail
  ·show (0+(l.map blV).length)*24≤140737488355328
   rw [List.length_map]
   omega
  ·exact ⟨(),(by (refine qa_ ?_;refine Sel4.mk rfl rfl ?_ ?_<;>(repeat' first|exact True.intro|exact rfl|exact .inl rfl|exact .inr rfl|refine And.intro ?_ ?_|fail))),trivial⟩
  ·have h:true=true→l=[]:=by assumption
   rw [h rfl]
   exact ⟨(),(by (refine qa_ ?_;refine Sel4.mk rfl rfl ?_ ?_<;>(repeat' first|exact True.intro|exact rfl|exact .inl rfl|exact .inr rfl|refine And.intro ?_ ?_|fail))),trivial⟩
 repeat' first|(refine fun (hl:_≤MAXL)=>?_)|fail
 conv=>whnf
 refine qg_ [0,7,8] (σ:=Nat) (fun i=>[(9,.int .i64 i)]) (fun i=>[.row 1 (l.map blV)]) (fun i=>i≤l.length) (fun i=>l.length-i) 0 ?_
 conv=>whnf
 refine ⟨(by (refine qa_ ?_;refine Sel4.mk rfl rfl ?_ ?_<;>(repeat' first|exact True.intro|exact rfl|exact .inl rfl|exact .inr rfl|refine And.intro ?_ ?_|fail))),Nat.zero_le _,fun i hi=>?_⟩
 repeat' first|(refine fun (b:Bool) hb=>?_;cases b<;>first|exact absurd hb (by decide)|exact nfl hb|exact nfr hb|skip)|refine ⟨rfl,?_⟩|fail
 ·conv=>whnf
  exact hK
 have hlt:i<l.length:=by
  have h:=of_decide_eq_true (by assumption:decide ((i:Int)<((l.map blV).length:Int))=true)
  rw [List.length_map] at h
  omega
 have hg:(l.map blV)[i]?=some (blV l[i]):=by rw [List.getElem?_map,List.getElem?_eq_getElem hlt];rfl
 have hlm:i<(l.map blV).length:=by rw [List.length_map];exact hlt
 refine ⟨i,rfl,hlm,?_⟩
 conv=>whnf
 refine ⟨_,hg,?_⟩
 repeat' first|refine ⟨_,rfl,?_,rfl,?_⟩|fail
 ·exact hfb _ (List.getElem_mem hlt)
 refine ⟨i,rfl,hlm,?_⟩
 conv=>whnf
 refine ⟨hlm,?_⟩
 repeat' first|refine And.intro (a:=I64 _) ?_ ?_|fail
 ·have hl1:(l.map blV).length≤MAXL:=by assumption
  rw [List.length_map] at hl1
  unfold MAXL at hl1;unfold I64;omega
 refine ⟨i+1,?_,hlt,by omega⟩
 (refine qa_ ?_;refine Sel4.mk rfl rfl ?_ ?_<;>(repeat' first|exact True.intro|exact rfl|exact .inl rfl|exact .inr rfl|refine And.intro ?_ ?_|fail))
 have e:(l.map blV).set i (blV l[i])=l.map blV:=by
  have:(l.map blV)[i]'hlm=blV l[i]:=by simp
  rw [←this,List.set_getElem_self]
 show Row.row 1 (l.map blV)=Row.row 1 ((l.map blV).set i (blV l[i]))
 rw [e]
end Gv
namespace Gv
variable [Glob] [Laid]
structure copyZ (m:MachS):Prop where
 g:m.g.length≤1000∧∀ n∈m.g,n.ins.length≤1000000000
 f:m.f.length≤1000∧∀ f∈m.f,f.b.length≤1000000000
 s:m.sunk.length≤1000000000
 q:m.pipes.length≤1000000000∧∀ p∈m.pipes,p.b.length≤1000000000
 p:m.p.length≤1000000000
 go:∀ p∈m.p,(p.got.length≤1000000000∧∀ b∈p.got,b.length≤1000000000)∧(p.out.length≤1000000000∧∀ b∈p.out,b.length≤1000000000)
theorem q4p_:qb_ Tryz.prog 54=true:=by kernel_rfl
def q9g_:qn_:=fun args rows K=>∃ (m:MachS),args=[q7_ m]∧rows=[]∧copyZ m∧∀ Q ex,K (.agg [.sl qh_ m.g,.sl qq_ m.f,.own 0,.own 1,.sl qd_ m.sunk]) ([.row 4 (m.pipes.map qk_),.row 5 (qo_ Q m.p),.pack Q (q3_ m.p)]++ex)
noncomputable def qyp_:List (Nat × Spec):=[(63,qex_),(64,qo8_),(66,yg_)]
noncomputable def qyo_:List (Nat × FnI):=[]
noncomputable def qpa_:List (Nat × qn_):=[(117,qlj_),(118,qlo_),(115,qsq_)]
theorem q9f_:EnvOK ⟨Tryz.prog,tys,qyp_,qyo_,qpa_,[]⟩:=qs_ qt_ tys0 (.cons qhb_ qhc_ (.cons qr4_ qr5_ (.cons x1_ x2_ .nil))) .nil (.cons qlk_ (.cons qlp_ (.cons qp0_ .nil))) rfl
theorem qu1_:q1_ Tryz.prog 54 q9g_:=by
 refine xm_ q9f_ 6 q4p_ (fi:={fn:=Tryz.f54,hooks:=[4,12,13],draws:=[(2,[0,1,3,0,8,31,0,64,255,223,1023,2047,4095,8191,16383]),(3,[0,1,3,0,8,31,31,127,255,511]),(7,[0,1,0,0,8,24,63,127,255]),(12,[0,1,0,0,8,0,0,0,128,448,0,0,2048,8128,16327,32711,65479,131071,262143,524287])]}) ⟨Tryz.func54,by kernel_rfl,by kernel_rfl⟩ ?_
 rintro args rows K ⟨m,rfl,rfl,hz,hK⟩
 conv=>whnf
 repeat' first|exact True.intro|refine ⟨_,⟨rfl,rfl⟩,?_⟩|refine And.intro (a:=qj_ _ _ _ _ _ _ _ _) ?_ ?_|fail
 conv=>whnf
 apply Exists.intro
 apply And.intro
 ·refine ⟨m.g,rfl,hz.g,?_⟩
  exact ⟨rfl,rfl⟩
 conv=>whnf
 repeat' first|exact True.intro|refine ⟨_,⟨rfl,rfl⟩,?_⟩|refine And.intro (a:=qj_ _ _ _ _ _ _ _ _) ?_ ?_|fail
 conv=>whnf
 apply Exists.intro
 apply And.intro
 ·refine ⟨m.f,rfl,hz.f,?_⟩
  exact ⟨rfl,rfl⟩
 conv=>whnf
 repeat' first|exact True.intro|refine ⟨_,⟨rfl,rfl⟩,?_⟩|refine And.intro (a:=qj_ _ _ _ _ _ _ _ _) ?_ ?_|fail
 conv=>whnf
 apply Exists.intro
 apply And.intro
 ·refine ⟨m.sunk,rfl,hz.s,?_⟩
  exact ⟨rfl,rfl⟩
 conv=>whnf
 repeat' first|exact True.intro|refine ⟨_,⟨rfl,rfl⟩,?_⟩|refine ⟨_,_,⟨rfl,rfl⟩,?_⟩|refine And.intro (a:=qx_ _ _ _ _ _ _) ?_ ?_|fail
 conv=>whnf
 refine ql_ [3] (σ:=Unit) (fun _=>[(1,.ptr 3 0 0),(2,.ptr 4 0 0)]) (fun _=>[.row 4 (m.pipes.map qk_),.row 5 (m.p.map zf_),.dead,.box [.sl qh_ m.g,.sl qq_ m.f,.own 0,.own 1,.sl qd_ m.sunk],.box [.nil,.nil,.nil,.nil,.nil]]) (fun _=>True) ?_
 conv=>whnf
 refine ⟨?_,fun _ _=>?_⟩
 ·conv=>whnf
  repeat' first|exact True.intro|refine ⟨_,⟨rfl,rfl⟩,?_⟩|refine And.intro (a:=qj_ _ _ _ _ _ _ _ _) ?_ ?_|fail
  conv=>whnf
  apply Exists.intro
  apply Exists.intro
  apply And.intro
  ·refine ⟨m.pipes,rfl,rfl,hz.q.1,?_⟩
   exact ⟨rfl,rfl⟩
  conv=>whnf
  repeat' first|exact True.intro|refine ⟨_,⟨rfl,rfl⟩,?_⟩|refine And.intro (a:=qx_ _ _ _ _ _ _) ?_ ?_|refine And.intro (a:=qj_ _ _ _ _ _ _ _ _) ?_ ?_|refine ⟨⟨rfl,rfl⟩,?_⟩|fail
  conv=>whnf
  apply Exists.intro
  apply Exists.intro
  apply And.intro
  ·refine ⟨m.p,rfl,rfl,hz.p,?_⟩
   exact ⟨rfl,rfl⟩
  conv=>whnf
  repeat' first|exact True.intro|refine ⟨_,⟨rfl,rfl⟩,?_⟩|refine ⟨_,_,⟨rfl,rfl⟩,?_⟩|refine And.intro (a:=qx_ _ _ _ _ _ _) ?_ ?_|fail
  conv=>whnf
  exact ⟨(),(by (refine qf_ [some 3,some 5,some 2,some 0,some 1] rfl rfl ?_ ?_<;>(repeat' first|exact True.intro|exact rfl|exact .inl rfl|exact .inr rfl|refine And.intro ?_ ?_|fail))),trivial⟩
 conv=>whnf
 repeat' first|(refine fun (hl:_≤MAXL)=>?_)|fail
 conv=>whnf
 refine qg_ [1,2,3,29,30] (σ:=Nat) (fun i=>[(31,.int .i64 i)]) (fun i=>[.row 4 (m.pipes.map qk_),.row 5 (m.p.map zf_),.dead,.box [.sl qh_ m.g,.sl qq_ m.f,.own 0,.own 1,.sl qd_ m.sunk],.box [.nil,.nil,.nil,.nil,.nil]]) (fun i=>i≤m.pipes.length) (fun i=>m.pipes.length-i) 0 ?_
 conv=>whnf
 refine ⟨(by (refine qf_ [some 0,some 1,some 2,some 3,some 4] rfl rfl ?_ ?_<;>(repeat' first|exact True.intro|exact rfl|exact .inl rfl|exact .inr rfl|refine And.intro ?_ ?_|fail))),Nat.zero_le _,fun i hi=>?_⟩
 repeat' first|(refine fun (b:Bool) hb=>?_;cases b<;>first|exact absurd hb (by decide)|exact nfl hb|exact nfr hb|skip)|(refine fun (hl:_≤MAXL)=>?_)|refine ⟨rfl,?_⟩|fail
 rotate_left
 ·have hlt:i<m.pipes.length := by
   have h:=of_decide_eq_true (by assumption:decide ((i:Int)<((m.pipes.map qk_).length:Int))=true)
   rw [List.length_map] at h
   omega
  have hg:(m.pipes.map qk_)[i]?=some (qk_ m.pipes[i]):=by rw [List.getElem?_map,List.getElem?_eq_getElem hlt];rfl
  have hlm:i<(m.pipes.map qk_).length:=by rw [List.length_map];exact hlt
  refine ⟨i,rfl,hlm,?_⟩
  conv=>whnf
  refine ⟨_,hg,?_⟩
  repeat' first|exact True.intro|refine ⟨_,⟨rfl,rfl⟩,?_⟩|refine And.intro (a:=qj_ _ _ _ _ _ _ _ _) ?_ ?_|fail
  conv=>whnf
  apply Exists.intro
  apply And.intro
  ·refine ⟨m.pipes[i].b,rfl,hz.q.2 _ (List.getElem_mem hlt),?_⟩
   exact ⟨rfl,rfl⟩
  conv=>whnf
  apply Exists.intro
  apply And.intro
  ·refine ⟨rfl,i,rfl,hlm,?_⟩
   exact ⟨rfl,rfl⟩
  conv=>whnf
  refine ⟨trivial,?_⟩
  conv=>whnf
  repeat' first|refine ⟨_,⟨rfl,rfl⟩,?_⟩|fail
  apply Exists.intro
  apply Exists.intro
  apply And.intro
  ·conv=>whnf
   refine ⟨_,hg,?_⟩
   exact ⟨rfl,rfl⟩
  conv=>whnf
  repeat' first|exact True.intro|refine And.intro (a:=I64 _) ?_ ?_|refine And.intro (a:=qx_ _ _ _ _ _ _) ?_ ?_|fail
  ·have hM:(m.pipes.map qk_).length≤MAXL:=by assumption
   rw [List.length_map] at hM
   unfold I64;unfold MAXL at hM;omega
  refine ⟨i+1,?_,hlt,by omega⟩
  refine qf_ [some 0,some 1,some 2,some 3,some 4] rfl rfl ?_ ?_<;>(repeat' first|exact True.intro|exact rfl|exact .inl rfl|exact .inr rfl|refine And.intro ?_ ?_|fail)
  have e:(m.pipes.map qk_).set i (qk_ m.pipes[i])=m.pipes.map qk_:=by
   have:(m.pipes.map qk_)[i]'hlm=qk_ m.pipes[i]:=by simp
   rw [←this,List.set_getElem_self]
  show Row.row 4 (m.pipes.map qk_)=Row.row 4 ((m.pipes.map qk_).set i (qk_ m.pipes[i]))
  rw [e]
 have e0:m.p.map zf_=xw_ noLoc m.p 0:=by simp [xw_,qo_]
 rw [e0]
 conv=>whnf
 refine qg_ [1,2,3,46,47] (σ:=Nat × Loc) (fun s=>[(48,.int .i64 s.1)]) (fun s=>[.row 4 (m.pipes.map qk_),.row 5 (xw_ s.2 m.p s.1),.pack s.2 (q3_ (m.p.take s.1)),.box [.sl qh_ m.g,.sl qq_ m.f,.own 0,.own 1,.sl qd_ m.sunk],.box [.nil,.nil,.nil,.nil,.nil]]) (fun s=>s.1≤m.p.length) (fun s=>m.p.length-s.1) (0,noLoc) ?_
 conv=>whnf
 refine ⟨(qts_ 2 noLoc rfl).trans (by (refine qf_ [some 0,some 1,some 2,some 3,some 4] rfl rfl ?_ ?_<;>(repeat' first|exact True.intro|exact rfl|exact .inl rfl|exact .inr rfl|refine And.intro ?_ ?_|fail))),Nat.zero_le _,fun s hs=>?_⟩
 obtain ⟨k,Q⟩:=s
 dsimp only at hs
 have hcl:=qha_ (Q:=Q) hs
 have hcn:(xw_ noLoc m.p 0).length=m.p.length:=qha_ (Nat.zero_le _)
 conv=>whnf
 repeat' first|(refine fun (b:Bool) hb=>?_;cases b<;>first|exact absurd hb (by decide)|exact nfl hb|exact nfr hb|skip)|fail
 ·have hkl:k=m.p.length := by
   have h:=of_decide_eq_false (by assumption:decide ((k:Int)<((xw_ noLoc m.p 0).length:Int))=false)
   rw [hcn] at h
   omega
  subst hkl
  have hfin:=hK Q [.box [.sl qh_ m.g,.sl qq_ m.f,.own 0,.own 1,.sl qd_ m.sunk],.box [.sl qh_ m.g,.sl qq_ m.f,.own 0,.own 1,.sl qd_ m.sunk]]
  have e1:xw_ Q m.p m.p.length=qo_ Q m.p:=by simp [xw_]
  have e2:q3_ (m.p.take m.p.length)=q3_ m.p:=by rw [List.take_length]
  rw [←e1,←e2] at hfin
  conv=>whnf
  exact hfin
 have hk:k<m.p.length:=by
  have h:=of_decide_eq_true (by assumption:decide ((k:Int)<((xw_ noLoc m.p 0).length:Int))=true)
  rw [hcn] at h
  omega
 have hat:=qyk_ (Q:=Q) hk
 conv=>whnf
 refine qjf_ ?_
 conv=>whnf
 refine ql_ [1,2,3,46,47,48] (σ:=Unit) (fun _=>[(6,.int .i64 k),(7,.ptr 5 0 0)]) (fun _=>[.row 4 (m.pipes.map qk_),.rowq 5 (xw_ Q m.p k),.pack Q (q3_ (m.p.take k)),.box [.sl qh_ m.g,.sl qq_ m.f,.own 0,.own 1,.sl qd_ m.sunk],.box [.nil,.nil,.nil,.nil,.nil],.box (zf_ m.p[k]).cells]) (fun _=>True) ?_
 conv=>whnf
 refine ⟨?_,fun _ _=>?_⟩
 ·conv=>whnf
  refine ⟨rfl,k,rfl,by rw [hcl];exact hk,?_⟩
  conv=>whnf
  refine ⟨_,hat,?_⟩
  skip
  exact ⟨(),(by (refine qf_ [some 0,some 1,some 2,some 3,some 4,some 5] rfl rfl ?_ ?_<;>(repeat' first|exact True.intro|exact rfl|exact .inl rfl|exact .inr rfl|refine And.intro ?_ ?_|fail))),trivial⟩
 conv=>whnf
 repeat' first|exact True.intro|refine ⟨_,⟨rfl,rfl⟩,?_⟩|refine And.intro (a:=qj_ _ _ _ _ _ _ _ _) ?_ ?_|fail
 conv=>whnf
 apply Exists.intro
 apply Exists.intro
 apply And.intro
 ·conv=>whnf
  refine ⟨m.p[k].got,rfl,rfl,(hz.go _ (List.getElem_mem hk)).1,?_⟩
  exact ⟨rfl,rfl⟩
 conv=>whnf
 repeat' first|exact True.intro|refine ⟨_,⟨rfl,rfl⟩,?_⟩|refine And.intro (a:=qx_ _ _ _ _ _ _) ?_ ?_|refine And.intro (a:=qj_ _ _ _ _ _ _ _ _) ?_ ?_|refine ⟨⟨rfl,rfl⟩,?_⟩|fail
 conv=>whnf
 apply Exists.intro
 apply Exists.intro
 apply And.intro
 ·conv=>whnf
  refine ⟨m.p[k].out,rfl,rfl,(hz.go _ (List.getElem_mem hk)).2,?_⟩
  exact ⟨rfl,rfl⟩
 conv=>whnf
 repeat' first|exact True.intro|refine And.intro (a:=qx_ _ _ _ _ _ _) ?_ ?_|refine ⟨⟨rfl,rfl⟩,?_⟩|fail
 conv=>whnf
 apply Exists.intro
 apply And.intro
 ·refine ⟨rfl,k,rfl,by rw [hcl];exact hk,?_⟩
  exact ⟨rfl,rfl⟩
 conv=>whnf
 refine ⟨trivial,?_⟩
 conv=>whnf
 repeat' first|refine ⟨_,⟨rfl,rfl⟩,?_⟩|fail
 apply Exists.intro
 apply Exists.intro
 apply And.intro
 ·conv=>whnf
  refine ⟨_,hat,?_⟩
  exact ⟨rfl,rfl⟩
 conv=>whnf
 repeat' first|exact True.intro|refine And.intro (a:=qx_ _ _ _ _ _ _) ?_ ?_|refine ⟨⟨rfl,rfl⟩,?_⟩|fail
 conv=>whnf
 apply Exists.intro
 apply And.intro
 ·refine ⟨rfl,k,rfl,by rw [List.length_set,hcl];exact hk,?_⟩
  exact ⟨rfl,rfl⟩
 conv=>whnf
 refine ⟨trivial,?_⟩
 conv=>whnf
 repeat' first|refine ⟨_,⟨rfl,rfl⟩,?_⟩|fail
 apply Exists.intro
 apply Exists.intro
 apply And.intro
 ·conv=>whnf
  refine ⟨_,List.getElem?_set_self (by rw [hcl];exact hk),?_⟩
  exact ⟨rfl,rfl⟩
 conv=>whnf
 repeat' first|exact True.intro|refine And.intro (a:=qx_ _ _ _ _ _ _) ?_ ?_|fail
 conv=>whnf
 have hel:∀ x y:V,((xw_ Q m.p k).set k x).set k y=(xw_ Q m.p k).set k y:=fun x y=>List.set_set ..
 rw [hel]
 refine qxe_ 1 2 6 7 k rfl rfl rfl rfl (by decide) (List.getElem?_set_self (by rw [hcl];exact hk)) rfl (by rw [qdl_,List.length_take];omega) (fun j x hj hx=>?_) fun Q' hQ'=>?_
 ·rw [List.getElem?_set_ne (fun h=>hj h.symm)] at hx
  exact qo4_ x (List.mem_of_getElem? hx)
 rw [List.set_set]
 conv=>whnf
 repeat' first|refine And.intro (a:=I64 _) ?_ ?_|fail
 ·have hM:(m.p.map zf_).length≤MAXL:=by rw [e0];assumption
  rw [List.length_map] at hM
  unfold I64;unfold MAXL at hM;omega
 refine ⟨(k+1,Q'),?_,hk,by show m.p.length-(k+1)<m.p.length-k;omega⟩
 have hst:=qo5_ hk hQ'
 have hsb:=qnr_ hk
 show Wk _ _ _ _ [.row 4 (m.pipes.map qk_),.row 5 (xw_ Q' m.p (k+1)),.pack Q' (q3_ (m.p.take (k+1))),.box [.sl qh_ m.g,.sl qq_ m.f,.own 0,.own 1,.sl qd_ m.sunk],.box [.nil,.nil,.nil,.nil,.nil]]
 rw [←hst,←hsb]
 exact (by (refine qf_ [some 0,some 1,some 2,some 3,some 4] rfl rfl ?_ ?_<;>(repeat' first|exact True.intro|exact rfl|exact .inl rfl|exact .inr rfl|refine And.intro ?_ ?_|fail)))
end Gv
namespace Gv
variable [Glob] [Laid] [Nums] [Errs]
structure FocM (m:MachS) (i:Nat):Prop where
 g:zt_ m.g=0
 f:qu_ m.f=0
 np:m.p.length=m.g.length
 nq:m.pipes.length=(qr_ m.g).length
 lt:i<m.g.length
 got:(pr m i).got.length=nI m.g i
 out:(pr m i).out.length=nO m.g i
 room:∀ p∈m.pipes,p.b.length≤400000000
 big:∀ b∈(pr m i).got++(pr m i).out,b.length≤400000000
theorem FocM.foc {m:MachS} {i:Nat} (h:FocM m i) {Q:Loc}:FocOK m i (qo_ Q m.p):=⟨h.g,h.f,h.np,h.nq,h.lt,by rw [q8_];exact h.np,h.got,h.out,h.room,vi_,h.big⟩
def Steps (I:MachS→Prop):Prop:=∀ m,I m→∀ i,i<m.p.length→FocM m i∧qra_ m i∧I (qv_ m i).1
theorem qfp_:∀ {l:List PipeS},zu_ l=0→∀ p∈l,qi_ p=0
 | a::r,h,p,hp=>by
  unfold zu_ at h
  split at h
  ·rename_i h1;exact absurd h h1
  ·rename_i h1
   rcases List.mem_cons.1 hp with rfl|hp
   ·exact Decidable.not_not.1 h1
   ·exact qfp_ h p hp
theorem qfr_:∀ {g:List Gp.Node} {l:List ProcS},zr_ g l=0→∀ i (h1:i<g.length) (h2:i<l.length),q0_ g[i] l[i]=0
 | n::r,a::s,h,i,h1,h2=>by
  unfold zr_ at h
  split at h
  ·rename_i h3;exact absurd h h3
  ·rename_i h3
   cases i with
   | zero=>exact Decidable.not_not.1 h3
   | succ i=>exact qfr_ h i (by simpa using h1) (by simpa using h2)
structure Right (m:MachS):Prop where
 g:zt_ m.g=0
 f:qu_ m.f=0
 np:m.p.length=m.g.length
 nq:m.pipes.length=(qr_ m.g).length
 q:∀ p∈m.pipes,qi_ p=0
 p:∀ i (h1:i<m.g.length) (h2:i<m.p.length),q0_ m.g[i] m.p[i]=0
 s:m.sunk.length≤40000
theorem yk_ {m:MachS} (h:qm_ m=0):Right m:=by
 unfold qm_ at h
 split at h
 ·rename_i h1;exact absurd h h1
 rename_i h1
 split at h
 ·rename_i h2;exact absurd h h2
 rename_i h2
 split at h
 ·cases h
 rename_i h3
 split at h
 ·rename_i h4;exact absurd h h4
 rename_i h4
 split at h
 ·rename_i h5;exact absurd h h5
 rename_i h5
 split at h
 ·cases h
 rename_i h6
 exact ⟨Decidable.not_not.1 h1,Decidable.not_not.1 h2,by omega,by omega,qfp_ (Decidable.not_not.1 h4),qfr_ (Decidable.not_not.1 h5),by omega⟩
theorem qqm_ {n:Gp.Node} {p:ProcS} (h:q0_ n p=0):p.got.length=n.ins.length∧(p.out.length:Int)=zh_ n∧0≤p.pos∧p.pos≤(n.ins.length:Int)∧(p.read=true∨n.ins.length=0∨p.pos<(n.ins.length:Int))∧∀ b∈p.got++p.out,b.length≤40000:=by
 unfold q0_ at h
 split at h
 ·cases h
 rename_i h1
 split at h
 ·cases h
 rename_i h2
 split at h
 ·cases h
 rename_i h3
 split at h
 ·cases h
 rename_i h4
 refine ⟨by omega,by omega,by omega,by omega,?_,fun b hb=>?_⟩
 ·cases hr:p.read with
  | true=>exact .inl rfl
  | false =>
   right
   by_cases h0:n.ins.length=0
   ·exact .inl h0
   ·right
    have:¬ p.pos=(n.ins.length:Int):=fun e=>h3 ⟨hr,e,by omega⟩
    omega
 ·rcases Nat.lt_or_ge 40000 b.length with h5|h5
  ·exact absurd (List.any_eq_true.2 ⟨b,hb,decide_eq_true h5⟩) h4
  ·exact h5
theorem qi4_:∀ (l:List Bs) (n:Nat),(∀ b∈l,b.length≤n)→l.flatten.length≤l.length*n
 | [],n,_=>by simp
 | a::r,n,h=>by
  have h1:=h a (by simp)
  have h2:=qi4_ r n fun b hb=>h b (by simp [hb])
  rw [List.flatten_cons,List.length_append,List.length_cons,Nat.succ_mul]
  omega
theorem pr_at {m:MachS} {i:Nat} (h:i<m.p.length):pr m i=m.p[i]:=by
 unfold pr
 rw [List.getD_eq_getElem?_getD,List.getElem?_eq_getElem h];rfl
theorem q18_ {m:MachS} (R:Right m) {i:Nat} (hi:i<m.p.length):FocM m i∧qra_ m i:=by
 have hg:i<m.g.length:=by rw [←R.np];exact hi
 have hp:=qqm_ (R.p i hg hi)
 obtain ⟨p1,p2,p3,p4,p5,p6⟩:=hp
 have hpr:=pr_at hi
 have hnd:ndG m.g i=m.g[i]:=xb_ hg
 have hni:nI m.g i=m.g[i].ins.length:=by unfold nI;rw [hnd]
 have hi5:=vs_ ((gf_of R.g).node i hg)
 rw [hnd] at hi5
 have hgl:(pr m i).got.flatten.length≤5*40000:=by
  have h1:=qi4_ (pr m i).got 40000 fun b hb=>p6 b (by rw [←hpr];exact List.mem_append_left _ hb)
  have h2:(pr m i).got.length≤5:=by rw [hpr,p1];exact hi5
  exact Nat.le_trans h1 (Nat.mul_le_mul_right 40000 h2)
 have hgl:(pr m i).got.flatten.length≤200000:=hgl
 refine ⟨⟨R.g,R.f,R.np,R.nq,hg,by rw [hpr,hni];exact p1,?_,fun p hp=>?_,fun b hb=>?_⟩,fun p hp=>R.q p hp,by rw [hpr];exact p3,by rw [hpr,hni];exact p5,by omega,by have:=R.s;omega⟩
 ·rw [hpr]
  unfold nO
  rw [hnd]
  omega
 ·have:=xq_ ((z9_ p).trans (R.q p hp))
  omega
 ·rw [hpr] at hb
  have:=p6 b hb
  omega
theorem qas_ {m:MachS} (R:Right m):copyZ m:=by
 have hg:=(gf_of R.g).len.2
 have hf:=xc_ R.f
 refine ⟨⟨by omega,fun n hn=>?_⟩,⟨by omega,fun f h=>?_⟩,by have:=R.s;omega,⟨by rw [R.nq];exact z0_ R.g,fun p h=>?_⟩,by rw [R.np];omega,fun p hp=>?_⟩
 ·obtain ⟨i,hi,rfl⟩:=List.getElem_of_mem hn
  have:=vs_ ((gf_of R.g).node i hi)
  rw [xb_ hi] at this
  omega
 ·have:=(hf.2 f h).2
  omega
 ·have:=xq_ ((z9_ p).trans (R.q p h))
  omega
 ·obtain ⟨i,hi,rfl⟩:=List.getElem_of_mem hp
  have hgi:i<m.g.length:=by rw [←R.np];exact hi
  obtain ⟨p1,p2,p3,p4,p5,p6⟩:=qqm_ (R.p i hgi hi)
  have hcn:=(gf_of R.g).node i hgi
  have hi5:=vs_ hcn
  have ho5:=xh_ hcn
  rw [xb_ hgi] at hi5 ho5
  refine ⟨⟨by omega,fun b hb=>?_⟩,⟨by omega,fun b hb=>?_⟩⟩
  ·have:=p6 b (List.mem_append_left _ hb);omega
  ·have:=p6 b (List.mem_append_right _ hb);omega
def runP (m:MachS) (l:List Int):MachS × List Int × Int:=if qm_ m≠0 then (zM,[],qm_ m) else if 40000<l.length then (zM,[],2) else ((xi_ l m []).1,(xi_ l m []).2,0)
theorem qf9_ (m:MachS) (i:Nat) (hi:i<m.p.length):(qv_ m i).1.p.length=m.p.length:=by rw [(qfl_ hi).p,List.length_set]
theorem qch_:∀ (l:List Int) (m:MachS) (s:List Int),xi_ l m s=((xi_ l m []).1,s++(xi_ l m []).2)
 | [],m,s=>by simp [xi_]
 | i::r,m,s=>by
  rw [xi_,qch_ r _ (s++[(zn_ m i).2])]
  conv=>rhs;rw [xi_,qch_ r _ ([]++[(zn_ m i).2])]
  simp
theorem qdh_:∀ (l:List Int) (m:MachS) (x:Int),xi_ (l++[x]) m []=((zn_ (xi_ l m []).1 x).1,(xi_ l m []).2++[(zn_ (xi_ l m []).1 x).2])
 | [],m,x=>by simp [xi_]
 | i::r,m,x=>by
  rw [List.cons_append,xi_,qch_ (r++[x]),qdh_ r,xi_,qch_ r (zn_ m i).1 ([]++[(zn_ m i).2])]
  simp
theorem qfv_:∀ (l:List Int) (m:MachS) (s:List Int),(xi_ l m s).2.length=s.length+l.length
 | [],m,s=>rfl
 | i::r,m,s=>by
  rw [xi_,qfv_ r]
  simp
  omega
end Gv
namespace Gv
variable [Glob] [Laid]
theorem w0_ {α:Type} (p : α→Bool):∀ l:List α,(l.dropWhile p).length≤l.length
 | []=>Nat.le_refl _
 | x::l=>by
  unfold List.dropWhile
  split
  ·have:=w0_ p l
   simp;omega
  ·exact Nat.le_refl _
theorem q7o_ (s cs:Bs):(Lib.trimS s cs).length≤s.length:=by
 unfold Lib.trimS Lib.trimLeftS Lib.trimRightS
 refine Nat.le_trans (w0_ _ _) ?_
 rw [List.length_reverse]
 refine Nat.le_trans (w0_ _ _) ?_
 rw [List.length_reverse]
 exact Nat.le_refl _
theorem q7n_:qb_ Tryz.prog 140=true:=by kernel_rfl
def q3d_:Spec:=fun args K=>∃ (s cs:Bs),args=[.str s,.str cs]∧(cs.length<4294967281∧cs.all (fun b=>decide (b.toNat<128))=true)∧K (.str (Lib.trimS s cs))
theorem q7p_:Pure Tryz.prog 140 q3d_:=by
 intro w m args us K hm hg hv hT
 obtain ⟨s,cs,rfl,⟨h1,h2⟩,hK⟩:=hT
 obtain ⟨a,b,rfl,ha,hb⟩:=qn7_ hv.1 hv.2
 obtain ⟨rfl,hs⟩:=vf_ ha
 obtain ⟨rfl,-⟩:=vf_ hb
 refine (Any.strings_Trim_laid Tryz.laysTrim (by kernel_rfl) (ba s) (ba cs) w (by rw [xu_];exact hs) (by rw [xu_];exact h1) (ascii_of_all h2)).mono fun e w' ⟨he,hw⟩=>?_
 exact ⟨_,_,he,Bel.of_below hw,hK,.str (Nat.le_trans (q7o_ s cs) hs)⟩
end Gv
namespace Gv
variable [Glob] [Laid]
def letters:Bs:=[97,98,99,100,101,102,103,104,105,106,107,108,109,110,111,112,113,114,115,116,117,118,119,120,121,122,48,49,50,51,52,53,54,55,56,57]
theorem qmd_ (c:UInt8):letters.contains c=xz_ c:=by
 have h:∀ n:Fin 256,letters.contains (UInt8.ofNat n.1)=xz_ (UInt8.ofNat n.1):=by decide +kernel
 have:=h ⟨c.toNat,c.toNat_lt⟩
 simpa using this
theorem wa_ {α:Type} (p : α→Bool):∀ l:List α,l.dropWhile p=[]↔l.all p=true
 | []=>by simp
 | x::l=>by
  unfold List.dropWhile
  split
  ·rename_i h
   rw [wa_ p l]
   simp [h]
  ·rename_i h
   simp [h]
theorem qa3_ {α:Type} (p : α→Bool):∀ (l:List α) x r,l.dropWhile p=x::r→p x=false
 | [],x,r,h=>by simp at h
 | y::l,x,r,h=>by
  unfold List.dropWhile at h
  split at h
  ·exact qa3_ p l x r h
  ·rename_i hy
   cases h
   simpa using hy
theorem q7q_ (s cs:Bs):Lib.trimS s cs=[]↔s.all (fun c=>cs.contains c)=true:=by
 unfold Lib.trimS Lib.trimLeftS Lib.trimRightS
 have e:s.all (fun c=>cs.contains c)=s.reverse.all (fun c=>cs.contains c):=by simp
 rw [wa_,e,←wa_ (fun c=>cs.contains c) s.reverse]
 cases hd:s.reverse.dropWhile (fun c=>cs.contains c) with
 | nil=>simp
 | cons x r =>
  have:=qa3_ _ _ _ _ hd
  simp at this
  simp [this]
theorem qc7_:qb_ Tryz.prog 82=true:=by kernel_rfl
def qb4_:Spec:=fun args K=>∃ (s:Bs),args=[.str s]∧K (.bool (q9_ s))
noncomputable def qpt_:List (Nat × Spec):=[(140,q3d_)]
noncomputable def qps_:List (Nat × FnI):=[]
noncomputable def qje_:List (Nat × qn_):=[]
theorem qzw_:EnvOK ⟨Tryz.prog,tys,qpt_,qps_,qje_,[]⟩:=qs_ qt_ tys0 (.cons q7n_ q7p_ .nil) .nil .nil rfl
theorem qc8_:Pure Tryz.prog 82 qb4_:=by
 refine qp_ qzw_ 6 (fi:={fn:=Tryz.f82,hooks:=[],draws:=[]}) ⟨Tryz.func82,by kernel_rfl,by kernel_rfl⟩ ?_
 rintro _ K ⟨s,rfl,hK⟩
 replace hK:∀ r,r=.bool (q9_ s)→K r:=fun r h=>h ▸ hK
 repeat' first|(refine fun (b:Bool) hb=>?_;cases b<;>first|exact absurd hb (by decide)|exact nfl hb|exact nfr hb|skip)|(refine fun (hl:_≤MAXL)=>?_)|fail
 ·refine hK _ ?_
  have:s=[]:=by
   have h:decide ((0:Int)<s.length)=false:=by assumption
   have:¬ (0:Int)<s.length:=by simpa using h
   exact List.length_eq_zero_iff.1 (by omega)
  subst this
  rfl
 ·refine hK _ ?_
  have h:decide ((s.length:Int)≤12)=false:=by assumption
  have:¬ (s.length:Int)≤12:=by simpa using h
  have h2:¬ s.length≤12:=by omega
  simp [q9_,h2]
 ·refine ⟨s,letters,rfl,⟨by decide,by decide⟩,?_⟩
  skip
  refine hK _ ?_
  have h:decide ((s.length:Int)≤12)=true:=by assumption
  have h1:(s.length:Int)≤12:=by simpa using h
  have h2:s.length≤12:=by omega
  have h:decide ((0:Int)<s.length)=true:=by assumption
  have h3:(0:Int)<s.length:=by simpa using h
  have h4:s≠[]:=fun e=>by subst e;simp at h3
  have e:s.all xz_=s.all (fun c=>letters.contains c):=by
   congr 1
   funext c
   exact (qmd_ c).symm
  have e2:=q7q_ s letters
  congr 1
  simp only [q9_,h2,h4,e,ne_eq,not_false_eq_true,decide_true,Bool.true_and]
  generalize s.all (fun c=>letters.contains c)=t at e2 ⊢
  cases t
  ·simpa using e2
  ·simpa using e2
end Gv
namespace Gv
variable [Glob] [Laid]
def qdo_:List (List Int × Bs):=[([1],[119]),([2],[119]),([3],[119]),([4],[110]),([5],[45]),([6],[45]),([7],[45]),([8],[45]),([9],[110]),([10],[110])]
theorem qxb_ (c:Cmd):(mget [] qdo_ [c.kind]=[]∧(c.kind<1∨10<c.kind))∨(mget [] qdo_ [c.kind]=[119]∧(1≤c.kind∧c.kind≤10)∧qaf_ c=true∧useN c=false)∨(mget [] qdo_ [c.kind]=[110]∧(1≤c.kind∧c.kind≤10)∧qaf_ c=false∧useN c=true∧c.kind≠3)∨(mget [] qdo_ [c.kind]=[45]∧(1≤c.kind∧c.kind≤10)∧qaf_ c=false∧useN c=false∧c.kind≠3):=by
 unfold qaf_ useN
 generalize c.kind=k
 by_cases h:1≤k∧k≤10
 ·have h2:k=1∨k=2∨k=3∨k=4∨k=5∨k=6∨k=7∨k=8∨k=9∨k=10:=by omega
  rcases h2 with rfl|rfl|rfl|rfl|rfl|rfl|rfl|rfl|rfl|rfl<;>decide
 ·left
  refine ⟨?_,by omega⟩
  have e:∀ j:Int,1≤j→j≤10→¬ [j]=[k]:=fun j h1 h2 e=>by
   simp only [List.cons.injEq,and_true] at e
   omega
  unfold qdo_
  simp only [mget,e 1 (by omega) (by omega),e 2 (by omega) (by omega),e 3 (by omega) (by omega),e 4 (by omega) (by omega),e 5 (by omega) (by omega),e 6 (by omega) (by omega),e 7 (by omega) (by omega),e 8 (by omega) (by omega),e 9 (by omega) (by omega),e 10 (by omega) (by omega),if_false]
theorem qrz_:qb_ Tryz.prog 106=true:=by kernel_rfl
def qoa_:Spec:=fun args K=>∃ (c:Cmd),args=[cmdV c]∧K (.int .i64 (qz_ c))
noncomputable def qxz_:List (Nat × Spec):=[(82,qb4_)]
noncomputable def qxy_:List (Nat × FnI):=[]
noncomputable def qob_:List (Nat × qn_):=[]
theorem q9a_:EnvOK ⟨Tryz.prog,tys,qxz_,qxy_,qob_,[]⟩:=qs_ qt_ tys0 (.cons qc7_ qc8_ .nil) .nil .nil rfl
theorem qr0_:Pure Tryz.prog 106 qoa_:=by
 refine qp_ q9a_ 6 (fi:={fn:=Tryz.f106,hooks:=[2],draws:=[]}) ⟨Tryz.func106,by kernel_rfl,by kernel_rfl⟩ ?_
 rintro _ K ⟨c,rfl,hK⟩
 replace hK:∀ r,r=.int .i64 (qz_ c)→K r:=fun r h=>h ▸ hK
 have hu:=qxb_ c
 skip
 conv=>whnf
 refine ql_ [1] (σ:=Bs) (fun u=>[(3,.str u)]) (fun _=>[.box [.int .i64 c.kind,.str c.word,.int .i64 c.n]]) (fun u=>u=mget [] qdo_ [c.kind]) ?_
 conv=>whnf
 refine ⟨?_,fun u hu1=>?_⟩
 ·repeat' first|refine ⟨_,rfl,?_,rfl,?_⟩|refine ⟨Bs,strV,?_⟩|fail
  all_goals try rfl
  refine ⟨[],rfl,?_⟩
  skip
  exact ⟨_,(by (refine qa_ ?_;refine Sel4.mk rfl rfl ?_ ?_<;>(repeat' first|exact True.intro|exact rfl|exact .inl rfl|exact .inr rfl|refine And.intro ?_ ?_|fail))),rfl⟩
 rw [←hu1] at hu
 clear hu1
 unfold qz_ at hK
 rcases hu with ⟨rfl,h1⟩|⟨rfl,h1,h2,h3⟩|⟨rfl,h1,h2,h3,h4⟩|⟨rfl,h1,h2,h3,h4⟩
 ·repeat' first|(refine fun (b:Bool) hb=>?_;cases b<;>first|exact absurd hb (by decide)|exact nfl hb|exact nfr hb|skip)|fail
  refine hK _ ?_
  rw [if_pos h1]
 all_goals
  have h1':¬ (c.kind<1∨10<c.kind):=by omega
 ·simp only [h1',h2,h3,if_false] at hK
  repeat' first|(refine fun (b:Bool) hb=>?_;cases b<;>first|exact absurd hb (by decide)|exact nfl hb|exact nfr hb|skip)|fail
  ·refine ⟨c.word,rfl,?_⟩
   repeat' first|(refine fun (b:Bool) hb=>?_;cases b<;>first|exact absurd hb (by decide)|exact nfl hb|exact nfr hb|skip)|(refine fun (hl:_≤MAXL)=>?_)|fail
   all_goals (refine hK _ ?_;simp_all;try omega)
  ·refine hK _ ?_
   simp_all
 ·simp only [h1',h2,h3,if_false] at hK
  repeat' first|(refine fun (b:Bool) hb=>?_;cases b<;>first|exact absurd hb (by decide)|exact nfl hb|exact nfr hb|skip)|fail
  all_goals (refine hK _ ?_;simp_all;try omega)
 ·simp only [h1',h2,h3,if_false] at hK
  repeat' first|(refine fun (b:Bool) hb=>?_;cases b<;>first|exact absurd hb (by decide)|exact nfl hb|exact nfr hb|skip)|fail
  all_goals (refine hK _ ?_;simp_all;done)
end Gv
namespace Gv
variable [Glob] [Laid]
theorem que_:qb_ Tryz.prog 107=true:=by kernel_rfl
def qk9_:Spec:=fun args K=>∃ (h:Int) (c:Cmd),args=[.int .i64 h,cmdV c]∧K (.int .i64 (z2_ h c))
noncomputable def qoh_:List (Nat × Spec):=[(106,qoa_)]
noncomputable def qog_:List (Nat × FnI):=[]
noncomputable def qil_:List (Nat × qn_):=[]
theorem qx2_:EnvOK ⟨Tryz.prog,tys,qoh_,qog_,qil_,[(38,[true,false,true])]⟩:=qs_ qt_ tys0 (.cons qrz_ qr0_ .nil) .nil .nil (by kernel_rfl)
theorem quf_:Pure Tryz.prog 107 qk9_:=by
 refine qp_ qx2_ 6 (fi:={fn:=Tryz.f107,hooks:=[],draws:=[]}) ⟨Tryz.func107,by kernel_rfl,by kernel_rfl⟩ ?_
 rintro _ K ⟨h,c,rfl,hK⟩
 replace hK:∀ r,r=.int .i64 (z2_ h c)→K r:=fun r h=>h ▸ hK
 obtain ⟨ck,cw,cn⟩:=c
 obtain ⟨q,hq⟩:∃ q,qz_ ⟨ck,cw,cn⟩=q:=⟨_,rfl⟩
 unfold z2_ at hK
 rw [hq] at hK
 repeat' first|(refine fun (b:Bool) hb=>?_;cases b<;>first|exact absurd hb (by decide)|exact nfl hb|exact nfr hb|skip)|fail
 ·exfalso
  have h3:h=4:=by
   have h3:(!decide (h=4))=false:=by assumption
   simpa using h3
  exact absurd h3 (of_decide_eq_false (by assumption:decide (h=4)=false))
 ·have h1:¬ h<1:=of_decide_eq_false (by assumption)
  have h2:¬ 4<h:=of_decide_eq_false (by assumption)
  have h3:h=4:=by
   have h3:(!decide (h=4))=false:=by assumption
   simpa using h3
  refine ⟨⟨ck,cw,cn⟩,rfl,?_⟩
  rw [hq]
  skip
  refine hK _ ?_
  rw [if_neg (by omega),if_neg (by omega)]
 ·have h1:¬ h<1:=of_decide_eq_false (by assumption)
  have h2:¬ 4<h:=of_decide_eq_false (by assumption)
  have h3:¬ h=4:=by
   have h3:(!decide (h=4))=true:=by assumption
   simpa using h3
  have hz:(⟨ck,cw,cn⟩:Cmd)=zCmd:=by
   unfold zCmd
   grind
  conv=>whnf
  refine hK _ ?_
  rw [if_neg (by omega),if_pos h3,if_neg (fun e=>e hz)]
 ·exfalso
  have h3:¬ h=4:=by
   have h3:(!decide (h=4))=true:=by assumption
   simpa using h3
  exact absurd (of_decide_eq_true (by assumption:decide (h=4)=true)) h3
 ·have h1:¬ h<1:=of_decide_eq_false (by assumption)
  have h2:¬ 4<h:=of_decide_eq_false (by assumption)
  have h3:¬ h=4:=by
   have h3:(!decide (h=4))=true:=by assumption
   simpa using h3
  have hz:(⟨ck,cw,cn⟩:Cmd)≠zCmd:=by
   unfold zCmd
   grind
  conv=>whnf
  refine hK _ ?_
  rw [if_neg (by omega),if_pos h3,if_pos hz]
 ·have h2:4<h:=of_decide_eq_true (by assumption)
  conv=>whnf
  refine hK _ ?_
  rw [if_pos (by omega)]
 ·have h2:h<1:=of_decide_eq_true (by assumption)
  conv=>whnf
  refine hK _ ?_
  rw [if_pos (by omega)]
end Gv
namespace Gv
variable [Glob] [Laid]
theorem qsy_:qb_ Tryz.prog 105=true:=by kernel_rfl
def qqd_:Spec:=fun args K=>∃ n:Gp.Node,args=[qh_ n]∧K (.int .i64 (zh_ n))
noncomputable def q1c_:List (Nat × Spec):=[]
noncomputable def q1b_:List (Nat × FnI):=[]
noncomputable def qqe_:List (Nat × qn_):=[]
theorem zas_:EnvOK ⟨Tryz.prog,tys,q1c_,q1b_,qqe_,[]⟩:=qs_ qt_ tys0 .nil .nil .nil rfl
theorem qsz_:Pure Tryz.prog 105 qqd_:=by
 refine qp_ zas_ 6 (fi:={fn:=Tryz.f105,hooks:=[],draws:=[]}) ⟨Tryz.func105,by kernel_rfl,by kernel_rfl⟩ ?_
 rintro _ K ⟨n,rfl,hK⟩
 replace hK:∀ r,r=.int .i64 (zh_ n)→K r:=fun r h=>h ▸ hK
 unfold zh_ at hK
 repeat' first|(refine fun (b:Bool) hb=>?_;cases b<;>first|exact absurd hb (by decide)|exact nfl hb|exact nfr hb|skip)|fail
 ·have h2:¬ n.kind=2:=of_decide_eq_false (by assumption)
  have h5:¬ n.kind=5:=of_decide_eq_false (by assumption)
  rw [if_neg h2,if_neg h5] at hK
  exact hK _ rfl
 ·have h2:¬ n.kind=2:=of_decide_eq_false (by assumption)
  have h5:n.kind=5:=of_decide_eq_true (by assumption)
  rw [if_neg h2,if_pos h5] at hK
  exact hK _ rfl
 ·have h2:n.kind=2:=of_decide_eq_true (by assumption)
  rw [if_pos h2] at hK
  exact hK _ rfl
end Gv
namespace Gv
variable [Glob] [Laid]
theorem qua_:qb_ Tryz.prog 47=true:=by kernel_rfl
def qk5_:Spec:=fun args K=>∃ N:List Gp.Node,args=[.agg [.sl qh_ N]]∧K (.int .i64 (zt_ N))
noncomputable def qof_:List (Nat × Spec):=[(82,qb4_),(106,qoa_),(107,qk9_),(105,qqd_)]
noncomputable def qoe_:List (Nat × FnI):=[]
noncomputable def qij_:List (Nat × qn_):=[]
theorem qx1_:EnvOK ⟨Tryz.prog,tys,qof_,qoe_,qij_,[(47,[true,true]),(38,[true,false,true])]⟩:=qs_ qt_ tys0 (.cons qc7_ qc8_ (.cons qrz_ qr0_ (.cons que_ quf_ (.cons qsy_ qsz_ .nil)))) .nil .nil (by kernel_rfl)
set_option maxHeartbeats 80000000 in
theorem qub_:Pure Tryz.prog 47 qk5_:=by
 refine qp_ qx1_ 6 (fi:={fn:=Tryz.f47,hooks:=[29,32,38],draws:=[(36,[0,1,3,7,15,31,15,127,255,511,1023,2047,4095,8191,16383,32767,65535,32767,163839,32767,557055,1998847,4095999,8290303,16777215,33554431])]}) ⟨Tryz.func47,by kernel_rfl,by kernel_rfl⟩ ?_
 rintro _ K ⟨N,rfl,hK⟩
 replace hK:∀ r,r=.int .i64 (zt_ N)→K r:=fun r h=>h ▸ hK
 rw [q4g_] at hK
 repeat' first|(refine fun (b:Bool) hb=>?_;cases b<;>first|exact absurd hb (by decide)|exact nfl hb|exact nfr hb|skip)|(refine fun (hl:_≤MAXL)=>?_)|refine ⟨Bool,V.lit,?_⟩|fail
 rotate_left
 ·have h:(60:Int)<(N.length:Int):=of_decide_eq_true (by assumption)
  rw [if_pos (by omega)] at hK
  exact hK _ rfl
 have h60:¬ (60:Int)<(N.length:Int):=of_decide_eq_false (by assumption)
 rw [if_neg (by omega)] at hK
 conv=>whnf
 refine qg_ [1,3,25,26] (σ:=Nat × Ents) (fun s=>[(27,.int .i64 s.1)]) (fun s=>[.box [.sl qh_ N],.mp 47 4 .pair V.lit s.2]) (fun s=>s.1≤N.length∧vw_ N s.1 (N.drop s.1) s.2=vw_ N 0 N []∧∀ a (h:a<N.length),a<s.1→q5_ N[a]=0) (fun s=>N.length-s.1) (0,[]) ?_
 conv=>whnf
 refine ⟨(by (refine qa_ ?_;refine Sel4.mk rfl rfl ?_ ?_<;>(repeat' first|exact True.intro|exact rfl|exact .inl rfl|exact .inr rfl|refine And.intro ?_ ?_|fail))),⟨Nat.zero_le _,rfl,fun a h h2=>by omega⟩,fun s hs=>?_⟩
 obtain ⟨i,u⟩:=s
 obtain ⟨hi,hgo,hck⟩:=hs
 dsimp only at hi hgo hck
 repeat' first|(refine fun (b:Bool) hb=>?_;cases b<;>first|exact absurd hb (by decide)|exact nfl hb|exact nfr hb|skip)|(refine fun (hl:_≤MAXL)=>?_)|refine ⟨_,rfl,?_,rfl,?_⟩|fail
 rotate_left
 ·have hge:¬ (i:Int)<(N.length:Int):=of_decide_eq_false (by assumption)
  have h0:(N.length:Int)=0:=of_decide_eq_true (by assumption)
  conv=>whnf
  refine hK _ (congrArg (V.int .i64) ?_)
  rw [←hgo,List.drop_eq_nil_of_le (by omega),vw_,if_pos (by omega)]
 ·have h:(i:Int)<(N.length:Int):=of_decide_eq_true (by assumption)
  show i<N.length
  omega
 ·have hlt:i<N.length := by
   have h:(i:Int)<(N.length:Int):=of_decide_eq_true (by assumption)
   omega
  conv=>whnf
  refine ql_ [1,3,4,5,25,26,27] (σ:=Int × Int × Int × Bool × Bool × Bool × Bool) (fun s=>[(6,.int .i64 s.1),(7,.int .i64 s.2.1),(8,.int .i64 s.2.2.1),(9,.bool s.2.2.2.1),(10,.bool s.2.2.2.2.1),(11,.bool s.2.2.2.2.2.1),(12,.bool s.2.2.2.2.2.2)]) (fun _=>[.box [.sl qh_ N],.mp 47 4 .pair V.lit u,.box (qh_ N[i]).cells]) (fun s=>s=y6_ N[i]) ?_
  conv=>whnf
  refine ⟨?_,fun s hs=>?_⟩
  ·repeat' first|(refine fun (b:Bool) hb=>?_;cases b<;>first|exact absurd hb (by decide)|exact nfl hb|exact nfr hb|skip)|fail
   all_goals first|exact absurd ((by assumption:decide (N[i].kind=1)=true).symm.trans (by assumption:decide (N[i].kind=1)=false)) (by decide)|skip
   ·have h1:¬ N[i].kind=1:=of_decide_eq_false (by assumption)
    have h5:¬ N[i].kind=5:=of_decide_eq_false (by assumption)
    have h2:¬ N[i].kind=2:=of_decide_eq_false (by assumption)
    have h3:¬ N[i].kind=3:=of_decide_eq_false (by assumption)
    have h4:¬ N[i].kind=4:=of_decide_eq_false (by assumption)
    conv=>whnf
    refine ⟨(4,1,1,false,false,false,false),(by (refine qa_ ?_;refine Sel4.mk rfl rfl ?_ ?_<;>(repeat' first|exact True.intro|exact rfl|exact .inl rfl|exact .inr rfl|refine And.intro ?_ ?_|fail))),?_⟩
    unfold y6_
    rw [if_pos (by omega)]
    simp [h1,h2,h3,h4,h5]
   ·have h4:N[i].kind=4:=of_decide_eq_true (by assumption)
    conv=>whnf
    refine ⟨N[i].how,N[i].c,rfl,?_⟩
    conv=>whnf
    refine ⟨(z2_ N[i].how N[i].c,1,5,false,false,true,true),(by (refine qa_ ?_;refine Sel4.mk rfl rfl ?_ ?_<;>(repeat' first|exact True.intro|exact rfl|exact .inl rfl|exact .inr rfl|refine And.intro ?_ ?_|fail))),?_⟩
    simp [y6_,errN,h4]
   ·have h3:N[i].kind=3:=of_decide_eq_true (by assumption)
    conv=>whnf
    refine ⟨N[i].c,rfl,?_⟩
    conv=>whnf
    refine ⟨(qz_ N[i].c,1,1,false,false,true,false),(by (refine qa_ ?_;refine Sel4.mk rfl rfl ?_ ?_<;>(repeat' first|exact True.intro|exact rfl|exact .inl rfl|exact .inr rfl|refine And.intro ?_ ?_|fail))),?_⟩
    simp [y6_,errN,h3]
   ·have h2:N[i].kind=2:=of_decide_eq_true (by assumption)
    have w1:¬ N[i].wide<1:=of_decide_eq_false (by assumption)
    have w2:¬ 5<N[i].wide:=of_decide_eq_false (by assumption)
    conv=>whnf
    refine ⟨(0,1,1,false,true,false,false),(by (refine qa_ ?_;refine Sel4.mk rfl rfl ?_ ?_<;>(repeat' first|exact True.intro|exact rfl|exact .inl rfl|exact .inr rfl|refine And.intro ?_ ?_|fail))),?_⟩
    simp [y6_,errN,h2,w1,w2]
   ·have h2:N[i].kind=2:=of_decide_eq_true (by assumption)
    have w2:5<N[i].wide:=of_decide_eq_true (by assumption)
    conv=>whnf
    refine ⟨(3,1,1,false,true,false,false),(by (refine qa_ ?_;refine Sel4.mk rfl rfl ?_ ?_<;>(repeat' first|exact True.intro|exact rfl|exact .inl rfl|exact .inr rfl|refine And.intro ?_ ?_|fail))),?_⟩
    simp [y6_,errN,h2,w2]
   ·have h2:N[i].kind=2:=of_decide_eq_true (by assumption)
    have w2:N[i].wide<1:=of_decide_eq_true (by assumption)
    conv=>whnf
    refine ⟨(3,1,1,false,true,false,false),(by (refine qa_ ?_;refine Sel4.mk rfl rfl ?_ ?_<;>(repeat' first|exact True.intro|exact rfl|exact .inl rfl|exact .inr rfl|refine And.intro ?_ ?_|fail))),?_⟩
    simp [y6_,errN,h2,w2]
   ·have h5:N[i].kind=5:=of_decide_eq_true (by assumption)
    conv=>whnf
    refine ⟨N[i].file,rfl,?_⟩
    repeat' first|(refine fun (b:Bool) hb=>?_;cases b<;>first|exact absurd hb (by decide)|exact nfl hb|exact nfr hb|skip)|fail
    all_goals conv=>whnf
    ·have hw:q9_ N[i].file=true:=by simpa using (by assumption:(!q9_ N[i].file)=false)
     refine ⟨(0,1,1,true,false,false,false),(by (refine qa_ ?_;refine Sel4.mk rfl rfl ?_ ?_<;>(repeat' first|exact True.intro|exact rfl|exact .inl rfl|exact .inr rfl|refine And.intro ?_ ?_|fail))),?_⟩
     simp [y6_,errN,h5,hw]
    ·have hw:q9_ N[i].file=false:=by simpa using (by assumption:(!q9_ N[i].file)=true)
     refine ⟨(1,1,1,true,false,false,false),(by (refine qa_ ?_;refine Sel4.mk rfl rfl ?_ ?_<;>(repeat' first|exact True.intro|exact rfl|exact .inl rfl|exact .inr rfl|refine And.intro ?_ ?_|fail))),?_⟩
     simp [y6_,errN,h5,hw]
   ·have h5:N[i].kind=1:=of_decide_eq_true (by assumption)
    conv=>whnf
    refine ⟨N[i].file,rfl,?_⟩
    repeat' first|(refine fun (b:Bool) hb=>?_;cases b<;>first|exact absurd hb (by decide)|exact nfl hb|exact nfr hb|skip)|fail
    all_goals conv=>whnf
    ·have hw:q9_ N[i].file=true:=by simpa using (by assumption:(!q9_ N[i].file)=false)
     refine ⟨(0,0,0,true,false,false,false),(by (refine qa_ ?_;refine Sel4.mk rfl rfl ?_ ?_<;>(repeat' first|exact True.intro|exact rfl|exact .inl rfl|exact .inr rfl|refine And.intro ?_ ?_|fail))),?_⟩
     simp [y6_,errN,h5,hw]
    ·have hw:q9_ N[i].file=false:=by simpa using (by assumption:(!q9_ N[i].file)=true)
     refine ⟨(1,0,0,true,false,false,false),(by (refine qa_ ?_;refine Sel4.mk rfl rfl ?_ ?_<;>(repeat' first|exact True.intro|exact rfl|exact .inl rfl|exact .inr rfl|refine And.intro ?_ ?_|fail))),?_⟩
     simp [y6_,errN,h5,hw]
  ·have hcr:=q4j_ N[i]
   rw [←hs] at hcr
   obtain ⟨e,le,mo,bf,bw,bc,bh⟩:=s
   obtain ⟨r1,r2,r3⟩:=hcr
   dsimp only [qm8_] at r1 r2 r3
   rw [q0y_ hlt] at hgo
   repeat' first|(refine fun (b:Bool) hb=>?_;cases b<;>first|exact absurd hb (by decide)|exact nfl hb|exact nfr hb|skip)|fail
   rotate_left
   ·have he:e≠0:=by simpa using (by assumption:(!decide ((e,le,mo,bf,bw,bc,bh).1=0))=true)
    rw [if_pos (by rw [r1 he];exact he),r1 he] at hgo
    conv=>whnf
    exact hK _ (congrArg (V.int .i64) hgo)
   have he:e=0:=by simpa using (by assumption:(!decide ((e,le,mo,bf,bw,bc,bh).1=0))=false)
   replace r2:=r2 he
   replace r3:=r3 he
   clear r1
   conv=>whnf
   refine ql_ [1,3,4,5,25,26,27] (σ:=Bool) (fun b=>[(117,.bool b)]) (fun _=>[.box [.sl qh_ N],.mp 47 4 .pair V.lit u,.box (qh_ N[i]).cells]) (fun b=>q5_ N[i]=if b=true then 4 else 0) ?_
   conv=>whnf
   refine ⟨?_,fun b hb=>?_⟩
   ·have hz:(N[i].c=zCmd)↔(N[i].c.kind=0∧N[i].c.word=[]∧N[i].c.n=0) := by
     obtain ⟨k1,k2,k3⟩:Gp.Cmd:=N[i].c
     simp [zCmd]
    rw [hz] at r2 r3
    repeat' first|(refine fun (b:Bool) hb=>?_;cases b<;>first|exact absurd hb (by decide)|exact nfl hb|exact nfr hb|skip)|(refine fun (hl:_≤MAXL)=>?_)|fail
    all_goals (conv=>whnf)
    all_goals (first|(refine ⟨!decide (N[i].how=0),?_,?_⟩;focus ((refine qa_ ?_;refine Sel4.mk rfl rfl ?_ ?_<;>(repeat' first|exact True.intro|exact rfl|exact .inl rfl|exact .inr rfl|refine And.intro ?_ ?_|fail));done))|skip)
    all_goals (first|(refine ⟨true,?_,?_⟩;focus ((refine qa_ ?_;refine Sel4.mk rfl rfl ?_ ?_<;>(repeat' first|exact True.intro|exact rfl|exact .inl rfl|exact .inr rfl|refine And.intro ?_ ?_|fail));done))|skip)
    all_goals (first|(refine ⟨false,?_,?_⟩;focus ((refine qa_ ?_;refine Sel4.mk rfl rfl ?_ ?_<;>(repeat' first|exact True.intro|exact rfl|exact .inl rfl|exact .inr rfl|refine And.intro ?_ ?_|fail));done))|skip)
    all_goals clear hK hgo hs
    all_goals (first|(simp_all;done)|(simp_all;grind)|grind)
   ·cases b with
    | true =>
     have hc:q5_ N[i]=4:=hb
     rw [if_pos (by rw [hc];decide),hc] at hgo
     repeat' first|(refine fun (b:Bool) hb=>?_;cases b<;>first|exact absurd hb (by decide)|exact nfl hb|exact nfr hb|skip)|fail
     conv=>whnf
     exact hK _ (congrArg (V.int .i64) hgo)
    | false =>
     have hcn:q5_ N[i]=0:=hb
     rw [if_neg (fun h=>h hcn)] at hgo
     repeat' first|(refine fun (b:Bool) hb=>?_;cases b<;>first|exact absurd hb (by decide)|exact nfl hb|exact nfr hb|skip)|(refine fun (hl:_≤MAXL)=>?_)|fail
     conv=>whnf
     refine qg_ [1,3,4,5,25,26,27,119,120] (σ:=Nat × Ents) (fun s=>[(121,.int .i64 s.1)]) (fun s=>[.box [.sl qh_ N],.mp 47 4 .pair V.lit s.2,.box (qh_ N[i]).cells]) (fun s=>s.1≤N[i].ins.length∧q4_ N i (N[i].ins.drop s.1) s.2=q4_ N i N[i].ins u) (fun s=>N[i].ins.length-s.1) (0,u) ?_
     conv=>whnf
     refine ⟨(by (refine qa_ ?_;refine Sel4.mk rfl rfl ?_ ?_<;>(repeat' first|exact True.intro|exact rfl|exact .inl rfl|exact .inr rfl|refine And.intro ?_ ?_|fail))),⟨Nat.zero_le _,rfl⟩,fun s hs=>?_⟩
     obtain ⟨j,v⟩:=s
     obtain ⟨hj,hpg⟩:=hs
     dsimp only at hj hpg
     repeat' first|(refine fun (b:Bool) hb=>?_;cases b<;>first|exact absurd hb (by decide)|exact nfl hb|exact nfr hb|skip)|(refine fun (hl:_≤MAXL)=>?_)|refine And.intro (a:=I64 _) ?_ ?_|refine ⟨_,rfl,?_,rfl,?_⟩|fail
     ·show I64 ((N.length:Int)-1)
      unfold I64;omega
     ·show I64 ((i:Int)+1)
      unfold I64;omega
     ·have hge:¬ (j:Int)<(N[i].ins.length:Int):=of_decide_eq_false (by assumption)
      have h5:=(by assumption:(!decide ((i:Int)=(N.length:Int)-1) == decide (N[i].kind=5))=false)
      have h6:decide (N[i].kind=5)=decide ((i:Int)=(N.length:Int)-1):=by
       have:decide ((i:Int)=(N.length:Int)-1)=decide (N[i].kind=5):=by simpa using h5
       exact this.symm
      rw [List.drop_eq_nil_of_le (by omega),q4_] at hpg
      rw [←hpg,if_neg (fun h=>h rfl),if_neg (fun h=>h h6)] at hgo
      conv=>whnf
      exact ⟨(i+1,v),(by (refine qa_ ?_;refine Sel4.mk rfl rfl ?_ ?_<;>(repeat' first|exact True.intro|exact rfl|exact .inl rfl|exact .inr rfl|refine And.intro ?_ ?_|fail))),⟨hlt,hgo,fun a h h2=>by
       rcases Nat.lt_or_ge a i with h3|h3
       ·exact hck a h h3
       ·obtain rfl:a=i:=by have:a<i+1:=h2;omega
        exact hcn⟩,by show N.length-(i+1)<N.length-i;omega⟩
     ·have hge:¬ (j:Int)<(N[i].ins.length:Int):=of_decide_eq_false (by assumption)
      have h5:=(by assumption:(!decide ((i:Int)=(N.length:Int)-1) == decide (N[i].kind=5))=true)
      have h6:¬ decide (N[i].kind=5)=decide ((i:Int)=(N.length:Int)-1):=by
       have:¬ decide ((i:Int)=(N.length:Int)-1)=decide (N[i].kind=5):=by simpa using h5
       exact fun h=>this h.symm
      rw [List.drop_eq_nil_of_le (by omega),q4_] at hpg
      rw [←hpg,if_neg (fun h=>h rfl),if_pos h6] at hgo
      conv=>whnf
      refine hK _ (congrArg (V.int .i64) ?_)
      exact hgo
     ·have h:(j:Int)<(N[i].ins.length:Int):=of_decide_eq_true (by assumption)
      show j<N[i].ins.length
      omega
     have hjl:j<N[i].ins.length:=by
      have h:(j:Int)<(N[i].ins.length:Int):=of_decide_eq_true (by assumption)
      omega
     rw [qhv_ hjl] at hpg
     obtain ⟨p,hp⟩:∃ p,N[i].ins[j]=p:=⟨_,rfl⟩
     rw [hp] at hpg
     conv=>whnf
     refine ql_ [1,3,4,5,14,25,26,27,119,120,121] (σ:=Unit) (fun _=>[]) (fun _=>[.box [.sl qh_ N],.mp 47 4 .pair V.lit v,.box (qh_ N[i]).cells,.box [.int .i64 p.node,.int .i64 p.out]]) (fun _=>¬ (p.node<0∨(i:Int)≤p.node∨p.out<0∨zh_ (N.getD p.node.toNat ⟨0,[],zCmd,0,0,[]⟩)≤p.out)) ?_
     conv=>whnf
     refine ⟨?_,fun _ hok=>?_⟩
     ·rw [hp]
      repeat' first|exact True.intro|(refine fun (b:Bool) hb=>?_;cases b<;>first|exact absurd hb (by decide)|exact nfl hb|exact nfr hb|skip)|refine ⟨_,⟨rfl,rfl⟩,?_⟩|refine And.intro (a:=qj_ _ _ _ _ _ _ _ _) ?_ ?_|fail
      ·have h1:¬ p.node<0:=of_decide_eq_false (by assumption)
       have h2:¬ (i:Int)≤p.node:=of_decide_eq_false (by assumption)
       have h3:¬ p.out<0:=of_decide_eq_false (by assumption)
       obtain ⟨k,hk⟩:∃ k:Nat,p.node=k:=⟨p.node.toNat,by omega⟩
       have hkN:k<N.length:=by omega
       have hgk:N.getD p.node.toNat ⟨0,[],zCmd,0,0,[]⟩=N[k]:=by
        rw [hk,Int.toNat_natCast,List.getD_eq_getElem?_getD,List.getElem?_eq_getElem hkN]
        rfl
       conv=>whnf
       refine ⟨_,⟨k,hk,hkN,rfl,rfl,rfl⟩,?_⟩
       repeat' first|refine ⟨_,⟨rfl,rfl⟩,?_⟩|fail
       apply Exists.intro
       apply And.intro
       ·refine ⟨N[k],rfl,?_⟩
        exact ⟨rfl,rfl⟩
       repeat' first|(refine fun (b:Bool) hb=>?_;cases b<;>first|exact absurd hb (by decide)|exact nfl hb|exact nfr hb|skip)|refine ⟨_,⟨rfl,rfl⟩,?_⟩|fail
       ·have h4:¬ zh_ N[k]≤p.out:=of_decide_eq_false (by assumption)
        conv=>whnf
        exact ⟨(),(by (refine qa_ ?_;refine Sel4.mk rfl rfl ?_ ?_<;>(repeat' first|exact True.intro|exact rfl|exact .inl rfl|exact .inr rfl|refine And.intro ?_ ?_|fail))),by rw [hgk];omega⟩
       ·have h4:zh_ N[k]≤p.out:=of_decide_eq_true (by assumption)
        rw [hgk,if_pos (by omega)] at hpg
        rw [←hpg,if_pos (show (5:Int)≠0 by decide)] at hgo
        conv=>whnf
        refine hK _ (congrArg (V.int .i64) ?_)
        exact hgo
      ·have h4:p.out<0:=of_decide_eq_true (by assumption)
       rw [if_pos (by omega)] at hpg
       rw [←hpg,if_pos (show (5:Int)≠0 by decide)] at hgo
       conv=>whnf
       refine hK _ (congrArg (V.int .i64) ?_)
       exact hgo
      ·have h4:(i:Int)≤p.node:=of_decide_eq_true (by assumption)
       rw [if_pos (by omega)] at hpg
       rw [←hpg,if_pos (show (5:Int)≠0 by decide)] at hgo
       conv=>whnf
       refine hK _ (congrArg (V.int .i64) ?_)
       exact hgo
      ·have h4:p.node<0:=of_decide_eq_true (by assumption)
       rw [if_pos (by omega)] at hpg
       rw [←hpg,if_pos (show (5:Int)≠0 by decide)] at hgo
       conv=>whnf
       refine hK _ (congrArg (V.int .i64) ?_)
       exact hgo
     ·rw [if_neg hok] at hpg
      obtain ⟨q,hq⟩:∃ q,mget false v [p.node,p.out]=q:=⟨_,rfl⟩
      rw [hq] at hpg
      conv=>whnf
      refine ⟨false,rfl,?_⟩
      conv =>
       arg 1
       rw [hq]
      cases q
      ·rw [if_neg (by decide)] at hpg
       repeat' first|refine And.intro (a:=I64 _) ?_ ?_|refine ⟨_,rfl,?_,rfl,?_⟩|fail
       ·rfl
       ·have hm:=(by assumption:N[i].ins.length≤MAXL)
        unfold MAXL at hm
        unfold I64;(try dsimp only);omega
       conv=>whnf
       exact ⟨(j+1,mput v [p.node,p.out] true),(by (refine qa_ ?_;refine Sel4.mk rfl rfl ?_ ?_<;>(repeat' first|exact True.intro|exact rfl|exact .inl rfl|exact .inr rfl|refine And.intro ?_ ?_|fail))),⟨hjl,hpg⟩,by show N[i].ins.length-(j+1)<N[i].ins.length-j;omega⟩
      ·rw [if_pos rfl] at hpg
       rw [←hpg,if_pos (show (6:Int)≠0 by decide)] at hgo
       conv=>whnf
       refine hK _ (congrArg (V.int .i64) ?_)
       exact hgo
 ·have hge:¬ (i:Int)<(N.length:Int):=of_decide_eq_false (by assumption)
  have h0:¬ (N.length:Int)=0:=of_decide_eq_false (by assumption)
  obtain rfl:i=N.length:=by omega
  have hend:vw_ N 0 N []=if (allK N N.length).all (fun x=>mget false u x)=true then 0 else 4:=by
   rw [←hgo,List.drop_eq_nil_of_le (Nat.le_refl _),vw_,if_neg (by omega)]
  have hgD:∀ a (h:a<N.length),N.getD a dN=N[a]:=fun a h=>by
   rw [List.getD_eq_getElem?_getD,List.getElem?_eq_getElem h];rfl
  conv=>whnf
  refine qg_ [3,174,175] (σ:=Nat) (fun s=>[(176,.int .i64 s)]) (fun s=>[.box [.sl qh_ N],.mp 47 4 .pair V.lit u]) (fun s=>s≤N.length∧∀ a o:Nat,a<s→(o:Int)<zh_ (N.getD a dN)→mget false u [(a:Int),(o:Int)]=true) (fun s=>N.length-s) 0 ?_
  conv=>whnf
  refine ⟨(by (refine qa_ ?_;refine Sel4.mk rfl rfl ?_ ?_<;>(repeat' first|exact True.intro|exact rfl|exact .inl rfl|exact .inr rfl|refine And.intro ?_ ?_|fail))),⟨Nat.zero_le _,fun a o h=>by omega⟩,fun s hs=>?_⟩
  obtain ⟨hsl,hal⟩:=hs
  repeat' first|(refine fun (b:Bool) hb=>?_;cases b<;>first|exact absurd hb (by decide)|exact nfl hb|exact nfr hb|skip)|refine ⟨_,rfl,?_,rfl,?_⟩|fail
  ·have hge:¬ (s:Int)<(N.length:Int):=of_decide_eq_false (by assumption)
   conv=>whnf
   refine hK _ (congrArg (V.int .i64) ?_)
   rw [hend,if_pos (List.all_eq_true.2 fun x hx=>?_)]
   obtain ⟨a,o,rfl,h1,h2⟩:=mem_allK.1 hx
   exact hal a o (by omega) h2
  ·have h:(s:Int)<(N.length:Int):=of_decide_eq_true (by assumption)
   show s<N.length
   omega
  have hlt:s<N.length:=by
   have h:(s:Int)<(N.length:Int):=of_decide_eq_true (by assumption)
   omega
  have hcn:=hck s hlt hlt
  obtain ⟨ho1,ho2⟩:=xh_ hcn
  conv=>whnf
  refine ⟨N[s],rfl,?_⟩
  skip
  conv=>whnf
  refine qg_ [3,16,174,175,176,182] (σ:=Nat) (fun s=>[(183,.int .i64 s)]) (fun _=>[.box [.sl qh_ N],.mp 47 4 .pair V.lit u,.box (qh_ N[s]).cells]) (fun k=>(k:Int)≤zh_ N[s]∧∀ o:Nat,o<k→mget false u [(s:Int),(o:Int)]=true) (fun k=>(zh_ N[s]).toNat-k) 0 ?_
  conv=>whnf
  refine ⟨(by (refine qa_ ?_;refine Sel4.mk rfl rfl ?_ ?_<;>(repeat' first|exact True.intro|exact rfl|exact .inl rfl|exact .inr rfl|refine And.intro ?_ ?_|fail))),⟨by simpa using ho1,fun o h=>by omega⟩,fun k hk=>?_⟩
  obtain ⟨hkl,hks⟩:=hk
  repeat' first|(refine fun (b:Bool) hb=>?_;cases b<;>first|exact absurd hb (by decide)|exact nfl hb|exact nfr hb|skip)|refine And.intro (a:=I64 _) ?_ ?_|fail
  ·show I64 ((s:Int)+1)
   unfold I64;omega
  ·have hge:¬ (k:Int)<zh_ N[s]:=of_decide_eq_false (by assumption)
   conv=>whnf
   refine ⟨s+1,(by (refine qa_ ?_;refine Sel4.mk rfl rfl ?_ ?_<;>(repeat' first|exact True.intro|exact rfl|exact .inl rfl|exact .inr rfl|refine And.intro ?_ ?_|fail))),⟨hlt,fun a o ha ho=>?_⟩,by omega⟩
   rcases Nat.lt_or_ge a s with h3|h3
   ·exact hal a o h3 ho
   ·obtain rfl:a=s:=by omega
    rw [hgD a hlt] at ho
    exact hks o (by omega)
  have hlk:(k:Int)<zh_ N[s]:=of_decide_eq_true (by assumption)
  obtain ⟨q,hq⟩:∃ q,mget false u [(s:Int),(k:Int)]=q:=⟨_,rfl⟩
  conv=>whnf
  refine ⟨false,rfl,?_⟩
  conv =>
   arg 1
   rw [hq]
  cases q
  ·skip
   conv=>whnf
   refine hK _ (congrArg (V.int .i64) ?_)
   rw [hend,if_neg (fun h=>?_)]
   have:=List.all_eq_true.1 h _ (mem_allK.2 ⟨s,k,rfl,hlt,by rw [hgD s hlt];exact hlk⟩)
   rw [hq] at this
   cases this
  ·repeat' first|refine And.intro (a:=I64 _) ?_ ?_|fail
   ·unfold I64;omega
   conv=>whnf
   refine ⟨k+1,(by (refine qa_ ?_;refine Sel4.mk rfl rfl ?_ ?_<;>(repeat' first|exact True.intro|exact rfl|exact .inl rfl|exact .inr rfl|refine And.intro ?_ ?_|fail))),⟨by omega,fun o ho=>?_⟩,by omega⟩
   rcases Nat.lt_or_ge o k with h3|h3
   ·exact hks o h3
   ·obtain rfl:o=k:=by omega
    exact hq
end Gv
namespace Gv
variable [Glob] [Laid]
theorem q0b_ (a b:Bs):(Op.bytesLess a b || decide (a=b))=!Op.bytesLess b a:=by
 rw [qbb_,qbb_]
 by_cases h1:b<a
 ·have h2:¬ a<b:=fun h=>List.lt_irrefl _ (List.lt_trans h h1)
  have h3:¬ a=b:=fun e=>by subst e;exact List.lt_irrefl _ h1
  simp [h1,h2,h3]
 ·by_cases e:a=b
  ·subst e
   simp [h1]
  ·have h2:a<b:=Decidable.byContradiction fun h=>e (List.le_antisymm h1 h)
   simp [h1,h2]
theorem qt6_:qb_ Tryz.prog 30=true:=by kernel_rfl
def qk1_:Spec:=fun args K=>∃ l:List FileS,args=[.sl qq_ l]∧K (.int .i64 (qu_ l))
noncomputable def qod_:List (Nat × Spec):=[(82,qb4_)]
noncomputable def qoc_:List (Nat × FnI):=[]
noncomputable def qih_:List (Nat × qn_):=[]
theorem qx0_:EnvOK ⟨Tryz.prog,tys,qod_,qoc_,qih_,[]⟩:=qs_ qt_ tys0 (.cons qc7_ qc8_ .nil) .nil .nil rfl
theorem qt7_:Pure Tryz.prog 30 qk1_:=by
 refine qp_ qx0_ 6 (fi:={fn:=Tryz.f30,hooks:=[],draws:=[(10,[0,1,3,7,15,7,7,71,231,487,999,2047,4095,8191])]}) ⟨Tryz.func30,by kernel_rfl,by kernel_rfl⟩ ?_
 rintro _ K ⟨l,rfl,hK⟩
 replace hK:∀ r,r=.int .i64 (qu_ l)→K r:=fun r h=>h ▸ hK
 repeat' first|(refine fun (b:Bool) hb=>?_;cases b<;>first|exact absurd hb (by decide)|exact nfl hb|exact nfr hb|skip)|(refine fun (hl:_≤MAXL)=>?_)|fail
 rotate_left
 ·refine hK _ ?_
  have h:=of_decide_eq_true (by assumption:decide ((12:Int)<(l.length:Int))=true)
  unfold qu_
  rw [if_pos (by omega)]
 have h12:¬ 12<l.length:=by
  have h:=of_decide_eq_false (by assumption:decide ((12:Int)<(l.length:Int))=false)
  omega
 have hcf:qu_ l=xv_ none l:=by unfold qu_;rw [if_neg h12]
 rw [hcf] at hK
 conv=>whnf
 refine qg_ [0,8,9] (σ:=Nat) (fun i=>[(10,.int .i64 i)]) (fun i=>[]) (fun i=>i≤l.length∧xv_ (qaa_ l i) (l.drop i)=xv_ none l) (fun i=>l.length-i) 0 ?_
 conv=>whnf
 refine ⟨(by (refine qa_ ?_;refine Sel4.mk rfl rfl ?_ ?_<;>(repeat' first|exact True.intro|exact rfl|exact .inl rfl|exact .inr rfl|refine And.intro ?_ ?_|fail))),⟨Nat.zero_le _,rfl⟩,fun i hi=>?_⟩
 obtain ⟨hi,hg⟩:=hi
 repeat' first|(refine fun (b:Bool) hb=>?_;cases b<;>first|exact absurd hb (by decide)|exact nfl hb|exact nfr hb|skip)|refine ⟨_,rfl,?_,rfl,?_⟩|fail
 ·have h:=of_decide_eq_false (by assumption:decide ((i:Int)<(l.length:Int))=false)
  have e:l.drop i=[]:=List.drop_eq_nil_of_le (by omega)
  rw [e] at hg
  conv=>whnf
  refine hK _ ?_
  rw [←hg]
  rfl
 ·have h:=of_decide_eq_true (by assumption:decide ((i:Int)<(l.length:Int))=true)
  show i<l.length
  omega
 have hlt:i<l.length:=by
  have h:=of_decide_eq_true (by assumption:decide ((i:Int)<(l.length:Int))=true)
  omega
 rw [qhe_ hlt] at hg
 refine ⟨l[i].name,rfl,?_⟩
 repeat' first|exact True.intro|(refine fun (b:Bool) hb=>?_;cases b<;>first|exact absurd hb (by decide)|exact nfl hb|exact nfr hb|skip)|(refine fun (hl:_≤MAXL)=>?_)|refine And.intro (a:=I64 _) ?_ ?_|refine ⟨_,⟨rfl,rfl⟩,?_⟩|refine ⟨_,And.intro (a:=I64 _) ?_ ⟨rfl,rfl⟩,?_⟩|refine And.intro (a:=qj_ _ _ _ _ _ _ _ _) ?_ ?_|fail
 ·unfold I64;omega
 ·have h1:q9_ l[i].name=true := by
   have h:(!q9_ l[i].name)=false:=by assumption
   simpa using h
  have h2:¬ (4000:Int)<(l[i].b.length:Int):=of_decide_eq_false (by assumption)
  have h3:¬ (0:Int)<(i:Int):=of_decide_eq_false (by assumption)
  have e0:i=0:=by omega
  have h4:vb_ (qaa_ l i) l[i].name=false:=by
   have:qaa_ l i=none:=by unfold qaa_;rw [if_pos e0]
   rw [this];rfl
  rw [if_neg (by rw [h1];decide),if_neg (by omega),if_neg (by rw [h4];decide)] at hg
  exact ⟨i+1,(by (refine qa_ ?_;refine Sel4.mk rfl rfl ?_ ?_<;>(repeat' first|exact True.intro|exact rfl|exact .inl rfl|exact .inr rfl|refine And.intro ?_ ?_|fail))),⟨hlt,hg⟩,by omega⟩
 ·unfold I64;omega
 ·have h1:q9_ l[i].name=true := by
   have h:(!q9_ l[i].name)=false:=by assumption
   simpa using h
  have h2:¬ (4000:Int)<(l[i].b.length:Int):=of_decide_eq_false (by assumption)
  have h3:(0:Int)<(i:Int):=of_decide_eq_true (by assumption)
  have hp:qaa_ l i=some (l[i-1]'(by omega)).name:=by
   unfold qaa_
   rw [if_neg (by omega),List.getD_eq_getElem?_getD,List.getElem?_eq_getElem (by omega)]
   rfl
  rw [if_neg (by rw [h1];decide),if_neg (by omega),hp] at hg
  conv=>whnf
  refine ⟨_,⟨i-1,by omega,by omega,rfl,rfl,rfl⟩,?_⟩
  repeat' first|(refine fun (b:Bool) hb=>?_;cases b<;>first|exact absurd hb (by decide)|exact nfl hb|exact nfr hb|skip)|refine And.intro (a:=I64 _) ?_ ?_|refine ⟨_,⟨rfl,rfl⟩,?_⟩|fail
  ·unfold I64;omega
  ·have h4:vb_ (some (l[i-1]'(by omega)).name) l[i].name=false := by
    have h:(Op.bytesLess l[i].name (l[i-1]'(by omega)).name || decide (l[i].name=(l[i-1]'(by omega)).name))=false:=by assumption
    rw [q0b_] at h
    exact h
   rw [if_neg (by rw [h4];decide)] at hg
   exact ⟨i+1,(by (refine qa_ ?_;refine Sel4.mk rfl rfl ?_ ?_<;>(repeat' first|exact True.intro|exact rfl|exact .inl rfl|exact .inr rfl|refine And.intro ?_ ?_|fail))),⟨hlt,hg⟩,by omega⟩
  ·have h4:vb_ (some (l[i-1]'(by omega)).name) l[i].name=true := by
    have h:(Op.bytesLess l[i].name (l[i-1]'(by omega)).name || decide (l[i].name=(l[i-1]'(by omega)).name))=true:=by assumption
    rw [q0b_] at h
    exact h
   rw [if_pos h4] at hg
   conv=>whnf
   exact hK _ (by rw [←hg])
 ·have h1:q9_ l[i].name=true := by
   have h:(!q9_ l[i].name)=false:=by assumption
   simpa using h
  have h2:(4000:Int)<(l[i].b.length:Int):=of_decide_eq_true (by assumption)
  rw [if_neg (by rw [h1];decide),if_pos (by omega)] at hg
  conv=>whnf
  exact hK _ (by rw [←hg])
 ·have h1:q9_ l[i].name=false := by
   have h:(!q9_ l[i].name)=true:=by assumption
   simpa using h
  rw [if_pos h1] at hg
  conv=>whnf
  exact hK _ (by rw [←hg])
end Gv
namespace Gv
variable [Glob] [Laid]
theorem qop_:qb_ Tryz.prog 104=true:=by kernel_rfl
def qg2_:Spec:=fun args K=>∃ p:PipeS,args=[qk_ p]∧K (.int .i64 (qi_ p))
noncomputable def qlf_:List (Nat × Spec):=[]
noncomputable def qle_:List (Nat × FnI):=[]
noncomputable def qgi_:List (Nat × qn_):=[]
theorem quo_:EnvOK ⟨Tryz.prog,tys,qlf_,qle_,qgi_,[]⟩:=qs_ qt_ tys0 .nil .nil .nil rfl
theorem qoq_:Pure Tryz.prog 104 qg2_:=by
 refine qp_ quo_ 6 (fi:={fn:=Tryz.f104,hooks:=[],draws:=[]}) ⟨Tryz.func104,by kernel_rfl,by kernel_rfl⟩ ?_
 rintro _ K ⟨p,rfl,hK⟩
 replace hK:∀ r,r=.int .i64 (qi_ p)→K r:=fun r h=>h ▸ hK
 unfold qi_ at hK
 have hbe:(p.b=[])↔((p.b.length:Int)=0):=by rw [←List.length_eq_zero_iff];omega
 repeat' first|(refine fun (b:Bool) hb=>?_;cases b<;>first|exact absurd hb (by decide)|exact nfl hb|exact nfr hb|skip)|(refine fun (hl:_≤MAXL)=>?_)|fail
 all_goals (try (conv=>whnf))
 all_goals (skip)
 all_goals (try (conv=>whnf))
 all_goals (skip)
 all_goals (refine hK _ (congrArg (V.int .i64) ?_))
 all_goals simp only [decide_eq_true_eq,decide_eq_false_iff_not,Bool.not_eq_true',Bool.not_eq_false'] at *
 all_goals grind
end Gv
namespace Gv
variable [Glob] [Laid]
theorem q93_ {N:List Gp.Node} (G:GF N):∀ j,j≤N.length→insB N j≤5*j
 | 0,_=>by rw [qzt_];omega
 | j+1,h=>by
  have h1:=q93_ G j (by omega)
  have h2:=z3_ (G.node j (by omega))
  rw [x4_ (by omega)]
  have h3:nI N j≤5:=by unfold nI;omega
  omega
theorem qui_:qb_ Tryz.prog 46=true:=by kernel_rfl
def qlb_:Spec:=fun args K=>∃ (m:MachS),args=[q7_ m]∧K (.int .i64 (qm_ m))
noncomputable def qoj_:List (Nat × Spec):=[(47,qk5_),(30,qk1_),(104,qg2_),(105,qqd_)]
noncomputable def qoi_:List (Nat × FnI):=[]
noncomputable def qim_:List (Nat × qn_):=[]
theorem qx5_:EnvOK ⟨Tryz.prog,tys,qoj_,qoi_,qim_,[]⟩:=qs_ qt_ tys0 (.cons qua_ qub_ (.cons qt6_ qt7_ (.cons qop_ qoq_ (.cons qsy_ qsz_ .nil)))) .nil .nil rfl
theorem quj_:Pure Tryz.prog 46 qlb_:=by
 refine qp_ qx5_ 6 (fi:={fn:=Tryz.f46,hooks:=[4,7,15,28,30],draws:=[(26,[0,1,3,0,8,24,63,127,255,511,1023,255,2303,8191,16383])]}) ⟨Tryz.func46,by kernel_rfl,by kernel_rfl⟩ ?_
 rintro _ K ⟨m,rfl,hK⟩
 replace hK:∀ r,r=.int .i64 (qm_ m)→K r:=fun r h=>h ▸ hK
 conv=>whnf
 refine ql_ [1] (σ:=Unit) (fun _=>[(1,.ptr 0 0 0)]) (fun _=>[.box (q7_ m).cells]) (fun _=>zt_ m.g=0) ?_
 conv=>whnf
 refine ⟨?_,fun _ hg=>?_⟩
 ·conv=>whnf
  refine ⟨m.g,rfl,?_⟩
  repeat' first|(refine fun (b:Bool) hb=>?_;cases b<;>first|exact absurd hb (by decide)|exact nfl hb|exact nfr hb|skip)|fail
  ·exact ⟨(),(by (refine qa_ ?_;refine Sel4.mk rfl rfl ?_ ?_<;>(repeat' first|exact True.intro|exact rfl|exact .inl rfl|exact .inr rfl|refine And.intro ?_ ?_|fail))),by simpa using ‹(!decide (zt_ m.g=0))=false›⟩
  ·have h:zt_ m.g≠0:=by simpa using ‹(!decide (zt_ m.g=0))=true›
   conv=>whnf
   refine hK _ ?_
   unfold qm_
   rw [if_pos h]
 conv=>whnf
 refine ql_ [1] (σ:=Unit) (fun _=>[]) (fun _=>[.box (q7_ m).cells]) (fun _=>qu_ m.f=0) ?_
 conv=>whnf
 refine ⟨?_,fun _ hf=>?_⟩
 ·conv=>whnf
  refine ⟨m.f,rfl,?_⟩
  repeat' first|(refine fun (b:Bool) hb=>?_;cases b<;>first|exact absurd hb (by decide)|exact nfl hb|exact nfr hb|skip)|fail
  ·exact ⟨(),(by (refine qa_ ?_;refine Sel4.mk rfl rfl ?_ ?_<;>(repeat' first|exact True.intro|exact rfl|exact .inl rfl|exact .inr rfl|refine And.intro ?_ ?_|fail))),by simpa using ‹(!decide (qu_ m.f=0))=false›⟩
  ·have h:qu_ m.f≠0:=by simpa using ‹(!decide (qu_ m.f=0))=true›
   conv=>whnf
   refine hK _ ?_
   unfold qm_
   rw [if_neg (by rw [hg];decide),if_pos h]
 have hgf:=gf_of hg
 have hin:=yi_ m.g
 have c4:(m.p.length≠m.g.length∨m.pipes.length≠(qr_ m.g).length)→V.int .i64 4=V.int .i64 (qm_ m):=fun h=>by unfold qm_;rw [if_neg (by rw [hg];decide),if_neg (by rw [hf];decide),if_pos h]
 conv=>whnf
 repeat' first|(refine fun (hl:_≤MAXL)=>?_)|fail
 conv=>whnf
 refine qg_ [1,32,33] (σ:=Nat) (fun k=>[(34,.int .i64 k),(5,.int .i64 (insB m.g k))]) (fun _=>[.box (q7_ m).cells]) (fun k=>k≤m.g.length) (fun k=>m.g.length-k) 0 ?_
 conv=>whnf
 refine ⟨(by (refine qa_ ?_;refine Sel4.mk rfl rfl ?_ ?_<;>(repeat' first|exact True.intro|exact rfl|exact .inl rfl|exact .inr rfl|refine And.intro ?_ ?_|fail))),Nat.zero_le _,fun k hk=>?_⟩
 repeat' first|(refine fun (b:Bool) hb=>?_;cases b<;>first|exact absurd hb (by decide)|exact nfl hb|exact nfr hb|skip)|(refine fun (hl:_≤MAXL)=>?_)|refine And.intro (a:=I64 _) ?_ ?_|refine ⟨_,rfl,?_,rfl,?_⟩|fail
 rotate_left
 ·have h:=of_decide_eq_true (by assumption:decide ((k:Int)<(m.g.length:Int))=true)
  omega
 rotate_right
 ·have hkl:k=m.g.length := by
   have h:=of_decide_eq_false (by assumption:decide ((k:Int)<(m.g.length:Int))=false)
   omega
  subst hkl
  rw [hin]
  conv=>whnf
  refine ql_ [1] (σ:=Unit) (fun _=>[]) (fun _=>[.box (q7_ m).cells]) (fun _=>¬ (m.p.length≠m.g.length∨m.pipes.length≠(qr_ m.g).length)) ?_
  conv=>whnf
  refine ⟨?_,fun _ hl=>?_⟩
  ·conv=>whnf
   repeat' first|(refine fun (b:Bool) hb=>?_;cases b<;>first|exact absurd hb (by decide)|exact nfl hb|exact nfr hb|skip)|(refine fun (hl:_≤MAXL)=>?_)|fail
   all_goals (try (conv=>whnf))
   all_goals (skip)
   all_goals (try (conv=>whnf))
   all_goals (skip)
   all_goals first
    | exact hK _ (c4 (by grind))
    | exact ⟨(),(by (refine qa_ ?_;refine Sel4.mk rfl rfl ?_ ?_<;>(repeat' first|exact True.intro|exact rfl|exact .inl rfl|exact .inr rfl|refine And.intro ?_ ?_|fail))),by grind⟩
  have hbase:qm_ m=if zu_ m.pipes≠0 then zu_ m.pipes else if zr_ m.g m.p≠0 then zr_ m.g m.p else if 40000<m.sunk.length then 2 else 0:=by
   unfold qm_
   rw [if_neg (by rw [hg];decide),if_neg (by rw [hf];decide),if_neg hl]
  conv=>whnf
  repeat' first|(refine fun (hl:_≤MAXL)=>?_)|fail
  conv=>whnf
  refine qg_ [1,60,61] (σ:=Nat) (fun k=>[(62,.int .i64 k)]) (fun _=>[.box (q7_ m).cells]) (fun k=>k≤m.pipes.length∧zu_ (m.pipes.drop k)=zu_ m.pipes) (fun k=>m.pipes.length-k) 0 ?_
  conv=>whnf
  refine ⟨(by (refine qa_ ?_;refine Sel4.mk rfl rfl ?_ ?_<;>(repeat' first|exact True.intro|exact rfl|exact .inl rfl|exact .inr rfl|refine And.intro ?_ ?_|fail))),⟨Nat.zero_le _,rfl⟩,fun k hk=>?_⟩
  obtain ⟨hk,hno⟩:=hk
  repeat' first|(refine fun (b:Bool) hb=>?_;cases b<;>first|exact absurd hb (by decide)|exact nfl hb|exact nfr hb|skip)|(refine fun (hl:_≤MAXL)=>?_)|refine ⟨_,rfl,?_,rfl,?_⟩|fail
  rotate_left
  ·have h:=of_decide_eq_true (by assumption:decide ((k:Int)<(m.pipes.length:Int))=true)
   omega
  ·have hk2:k<m.pipes.length := by
    have h:=of_decide_eq_true (by assumption:decide ((k:Int)<(m.pipes.length:Int))=true)
    omega
   have hst:zu_ (m.pipes.drop k)=if qi_ m.pipes[k]≠0 then qi_ m.pipes[k] else zu_ (m.pipes.drop (k+1)):=by
    rw [List.drop_eq_getElem_cons hk2];rfl
   rw [hno] at hst
   conv=>whnf
   refine ⟨m.pipes[k],rfl,?_⟩
   repeat' first|(refine fun (b:Bool) hb=>?_;cases b<;>first|exact absurd hb (by decide)|exact nfl hb|exact nfr hb|skip)|refine And.intro (a:=I64 _) ?_ ?_|fail
   ·have hM:m.pipes.length≤MAXL:=by assumption
    unfold I64;unfold MAXL at hM;omega
   ·have h0:qi_ m.pipes[k]=0:=by simpa using ‹(!decide (qi_ m.pipes[k]=0))=false›
    rw [if_neg (by rw [h0];decide)] at hst
    exact ⟨k+1,(by (refine qa_ ?_;refine Sel4.mk rfl rfl ?_ ?_<;>(repeat' first|exact True.intro|exact rfl|exact .inl rfl|exact .inr rfl|refine And.intro ?_ ?_|fail))),⟨hk2,hst.symm⟩,by omega⟩
   ·have h0:qi_ m.pipes[k]≠0:=by simpa using ‹(!decide (qi_ m.pipes[k]=0))=true›
    rw [if_pos h0] at hst
    conv=>whnf
    refine hK _ ?_
    rw [hbase,hst,if_pos h0]
  have hkl:k=m.pipes.length:=by
   have h:=of_decide_eq_false (by assumption:decide ((k:Int)<(m.pipes.length:Int))=false)
   omega
  subst hkl
  rw [List.drop_length] at hno
  have hp0:zu_ m.pipes=0:=by rw [←hno];rfl
  rw [if_neg (by rw [hp0];decide)] at hbase
  conv=>whnf
  refine qg_ [1,73,74] (σ:=Nat) (fun k=>[(75,.int .i64 k)]) (fun _=>[.box (q7_ m).cells]) (fun k=>k≤m.p.length∧zr_ (m.g.drop k) (m.p.drop k)=zr_ m.g m.p) (fun k=>m.p.length-k) 0 ?_
  conv=>whnf
  refine ⟨(by (refine qa_ ?_;refine Sel4.mk rfl rfl ?_ ?_<;>(repeat' first|exact True.intro|exact rfl|exact .inl rfl|exact .inr rfl|refine And.intro ?_ ?_|fail))),⟨Nat.zero_le _,rfl⟩,fun k hk=>?_⟩
  obtain ⟨hk,hno⟩:=hk
  have hpl:m.p.length=m.g.length:=by omega
  have hend:k=m.p.length→zr_ m.g m.p=0:=fun e=>by
   rw [←hno,e,List.drop_length]
   cases m.g.drop m.p.length<;>rfl
  have hst:∀ (hk2:k<m.p.length) (hk3:k<m.g.length),zr_ m.g m.p=if q0_ m.g[k] m.p[k]≠0 then q0_ m.g[k] m.p[k] else zr_ (m.g.drop (k+1)) (m.p.drop (k+1)):=fun hk2 hk3=>by
   rw [←hno,List.drop_eq_getElem_cons hk2,List.drop_eq_getElem_cons hk3];rfl
  repeat' first|(refine fun (b:Bool) hb=>?_;cases b<;>first|exact absurd hb (by decide)|exact nfl hb|exact nfr hb|skip)|(refine fun (hl:_≤MAXL)=>?_)|refine ⟨_,rfl,?_,rfl,?_⟩|fail
  ·have hkl := hend (by
    have h:=of_decide_eq_false (by assumption:decide ((k:Int)<(m.p.length:Int))=false)
    omega)
   conv=>whnf
   refine hK _ ?_
   rw [hbase,if_neg (by rw [hkl];decide),if_neg]
   have h:=of_decide_eq_false (by assumption:decide (40000<(m.sunk.length:Int))=false)
   omega
  ·have hkl := hend (by
    have h:=of_decide_eq_false (by assumption:decide ((k:Int)<(m.p.length:Int))=false)
    omega)
   conv=>whnf
   refine hK _ ?_
   rw [hbase,if_neg (by rw [hkl];decide),if_pos]
   have h:=of_decide_eq_true (by assumption:decide (40000<(m.sunk.length:Int))=true)
   omega
  all_goals
   have hk2:k<m.p.length:=by
    have h:=of_decide_eq_true (by assumption:decide ((k:Int)<(m.p.length:Int))=true)
    omega
  ·exact hk2
  ·omega
  have hk3:k<m.g.length:=by omega
  have hst:=hst hk2 hk3
  have hcn:=hgf.node k hk3
  rw [xb_ hk3] at hcn
  have hi:=vs_ hcn
  have ho:=xh_ hcn
  have hbad:∀ c:Int,c≠0→q0_ m.g[k] m.p[k]=c→V.int .i64 c=V.int .i64 (qm_ m):=fun c hc h=>by
   rw [h,if_pos hc] at hst
   rw [hbase,hst,if_pos hc]
  have c4p:(m.p[k].got.length≠m.g[k].ins.length∨(m.p[k].out.length:Int)≠zh_ m.g[k])→V.int .i64 4=V.int .i64 (qm_ m):=fun h=>hbad 4 (by decide) (by unfold q0_;rw [if_pos h])
  conv=>whnf
  refine ql_ [1,12,13,73,74,75] (σ:=Unit) (fun _=>[(12,.ptr 1 0 0),(13,.ptr 2 0 0)]) (fun _=>[.box (q7_ m).cells,.box (zf_ m.p[k]).cells,.box (qh_ m.g[k]).cells]) (fun _=>¬ (m.p[k].got.length≠m.g[k].ins.length∨(m.p[k].out.length:Int)≠zh_ m.g[k])) ?_
  conv=>whnf
  refine ⟨?_,fun _ h1=>?_⟩
  ·conv=>whnf
   repeat' first|exact True.intro|(refine fun (b:Bool) hb=>?_;cases b<;>first|exact absurd hb (by decide)|exact nfl hb|exact nfr hb|skip)|refine ⟨_,⟨rfl,rfl⟩,?_⟩|refine ⟨_,(fun _=>⟨rfl,rfl⟩),?_⟩|refine And.intro (a:=qj_ _ _ _ _ _ _ _ _) ?_ ?_|fail
   ·conv=>whnf
    apply Exists.intro
    apply And.intro
    ·refine ⟨m.g[k],rfl,?_⟩
     exact ⟨rfl,rfl⟩
    conv=>whnf
    repeat' first|(refine fun (b:Bool) hb=>?_;cases b<;>first|exact absurd hb (by decide)|exact nfl hb|exact nfr hb|skip)|refine ⟨_,⟨rfl,rfl⟩,?_⟩|fail
    all_goals (try (conv=>whnf))
    all_goals (skip)
    all_goals first
     | exact hK _ (c4p (by grind))
     | exact ⟨(),(by (refine qa_ ?_;refine Sel4.mk rfl rfl ?_ ?_<;>(repeat' first|exact True.intro|exact rfl|exact .inl rfl|exact .inr rfl|refine And.intro ?_ ?_|fail))),by grind⟩
   all_goals (try (conv=>whnf))
   all_goals (skip)
   all_goals (try (conv=>whnf))
   all_goals (skip)
   all_goals (try (conv=>whnf))
   all_goals (skip)
   all_goals first
    | exact hK _ (c4p (by grind))
    | exact ⟨(),(by (refine qa_ ?_;refine Sel4.mk rfl rfl ?_ ?_<;>(repeat' first|exact True.intro|exact rfl|exact .inl rfl|exact .inr rfl|refine And.intro ?_ ?_|fail))),by grind⟩
  have c3:(m.p[k].pos<0∨(m.g[k].ins.length:Int)<m.p[k].pos∨(m.p[k].read=false∧m.p[k].over=true))→V.int .i64 3=V.int .i64 (qm_ m):=fun h=>hbad 3 (by decide) (by unfold q0_;rw [if_neg h1,if_pos h])
  have c3b:¬ (m.p[k].pos<0∨(m.g[k].ins.length:Int)<m.p[k].pos∨(m.p[k].read=false∧m.p[k].over=true))→(m.p[k].read=false∧m.p[k].pos=(m.g[k].ins.length:Int)∧0<m.g[k].ins.length)→V.int .i64 3=V.int .i64 (qm_ m):=fun h2 h=>hbad 3 (by decide) (by unfold q0_;rw [if_neg h1,if_neg h2,if_pos h])
  conv=>whnf
  refine ql_ [1,12,73,74,75] (σ:=Unit) (fun _=>[]) (fun _=>[.box (q7_ m).cells,.box (zf_ m.p[k]).cells,.box (qh_ m.g[k]).cells]) (fun _=>¬ (m.p[k].pos<0∨(m.g[k].ins.length:Int)<m.p[k].pos∨(m.p[k].read=false∧m.p[k].over=true))∧¬ (m.p[k].read=false∧m.p[k].pos=(m.g[k].ins.length:Int)∧0<m.g[k].ins.length)) ?_
  conv=>whnf
  refine ⟨?_,fun _ h2=>?_⟩
  ·conv=>whnf
   repeat' first|(refine fun (b:Bool) hb=>?_;cases b<;>first|exact absurd hb (by decide)|exact nfl hb|exact nfr hb|skip)|(refine fun (hl:_≤MAXL)=>?_)|fail
   all_goals (try (conv=>whnf))
   all_goals (skip)
   all_goals (try (conv=>whnf))
   all_goals (skip)
   all_goals (try (conv=>whnf))
   all_goals (skip)
   all_goals (try (conv=>whnf))
   all_goals (skip)
   all_goals (try (conv=>whnf))
   all_goals (skip)
   all_goals (try (conv=>whnf))
   all_goals (skip)
   all_goals first
    | exact ⟨(),(by (refine qa_ ?_;refine Sel4.mk rfl rfl ?_ ?_<;>(repeat' first|exact True.intro|exact rfl|exact .inl rfl|exact .inr rfl|refine And.intro ?_ ?_|fail))),by grind⟩
    | exact hK _ (c3 (by grind))
    | exact hK _ (c3b (by grind) (by grind))
  obtain ⟨h2,h3⟩:=h2
  conv=>whnf
  repeat' first|(refine fun (hl:_≤MAXL)=>?_)|fail
  have c2:∀ b,b∈m.p[k].got++m.p[k].out→40000<b.length→V.int .i64 2=V.int .i64 (qm_ m):=fun b hb h=>hbad 2 (by decide) (by
   unfold q0_
   rw [if_neg h1,if_neg h2,if_neg h3,if_pos]
   rw [List.any_eq_true]
   exact ⟨b,hb,decide_eq_true h⟩)
  have c0:(∀ b∈m.p[k].got++m.p[k].out,b.length≤40000)→zr_ m.g m.p=zr_ (m.g.drop (k+1)) (m.p.drop (k+1)):=fun h=>by
   rw [hst,if_neg]
   unfold q0_
   rw [if_neg h1,if_neg h2,if_neg h3,if_neg]
   ·decide
   rw [List.any_eq_true]
   rintro ⟨b,hb,hd⟩
   have:=of_decide_eq_true hd
   have:=h b hb
   omega
  have hfl:m.p[k].got++m.p[k].out=[m.p[k].got,m.p[k].out].flatten:=by simp
  rw [hfl] at c2 c0
  have hLL:[m.p[k].got,m.p[k].out].length=2:=rfl
  generalize hLe:[m.p[k].got,m.p[k].out]=LL at c2 c0 hLL
  refine qg_ [1,73,74,75,144,145] (σ:=Nat) (fun i=>[(146,.int .i64 i)]) (fun _=>[.box (q7_ m).cells,.box (zf_ m.p[k]).cells,.box (qh_ m.g[k]).cells,.row 1 (LL.map lbV)]) (fun i=>i≤2∧∀ b∈(LL.take i).flatten,b.length≤40000) (fun i=>2-i) 0 ?_
  conv=>whnf
  refine ⟨by subst hLe;exact (by (refine qa_ ?_;refine Sel4.mk rfl rfl ?_ ?_<;>(repeat' first|exact True.intro|exact rfl|exact .inl rfl|exact .inr rfl|refine And.intro ?_ ?_|fail))),⟨Nat.zero_le _,by simp⟩,fun i hi=>?_⟩
  obtain ⟨hi,hno⟩:=hi
  have hlt:decide ((i:Int)<(2:Int))=true→i<LL.length:=fun h=>by
   have h:=of_decide_eq_true h
   omega
  conv=>whnf
  repeat' first|(refine fun (b:Bool) hb=>?_;cases b<;>first|exact absurd hb (by decide)|exact nfl hb|exact nfr hb|skip)|refine And.intro (a:=I64 _) ?_ ?_|refine ⟨rfl,?_⟩|fail
  ·have hM:m.p.length≤MAXL:=by assumption
   unfold I64;unfold MAXL at hM;omega
  ·have hi2:¬ (i:Int)<(2:Int):=of_decide_eq_false (by assumption)
   rw [List.take_of_length_le (by omega)] at hno
   exact ⟨k+1,(by (refine qa_ ?_;refine Sel4.mk rfl rfl ?_ ?_<;>(repeat' first|exact True.intro|exact rfl|exact .inl rfl|exact .inr rfl|refine And.intro ?_ ?_|fail))),⟨hk2,(c0 hno).symm⟩,by omega⟩
  have hi2:i<LL.length:=hlt (by assumption)
  have hg:(LL.map lbV)[i]?=some (lbV LL[i]):=by rw [List.getElem?_map,List.getElem?_eq_getElem hi2];rfl
  refine ⟨i,rfl,by rw [List.length_map];exact hi2,?_⟩
  conv=>whnf
  refine ⟨_,hg,?_⟩
  repeat' first|(refine fun (hl:_≤MAXL)=>?_)|fail
  refine qg_ [1,73,74,75,144,145,146,150,151] (σ:=Nat) (fun j=>[(152,.int .i64 j)]) (fun _=>[.box (q7_ m).cells,.box (zf_ m.p[k]).cells,.box (qh_ m.g[k]).cells,.row 1 (LL.map lbV)]) (fun j=>j≤LL[i].length∧∀ b∈LL[i].take j,b.length≤40000) (fun j=>LL[i].length-j) 0 ?_
  conv=>whnf
  refine ⟨(by (refine qa_ ?_;refine Sel4.mk rfl rfl ?_ ?_<;>(repeat' first|exact True.intro|exact rfl|exact .inl rfl|exact .inr rfl|refine And.intro ?_ ?_|fail))),⟨Nat.zero_le _,by simp⟩,fun j hj=>?_⟩
  obtain ⟨hj,hno2⟩:=hj
  have hjlt:decide ((j:Int)<(LL[i].length:Int))=true→j<LL[i].length:=fun h=>by
   have h:=of_decide_eq_true h
   omega
  conv=>whnf
  repeat' first|(refine fun (b:Bool) hb=>?_;cases b<;>first|exact absurd hb (by decide)|exact nfl hb|exact nfr hb|skip)|(refine fun (hl:_≤MAXL)=>?_)|refine And.intro (a:=I64 _) ?_ ?_|refine ⟨_,rfl,?_,rfl,?_⟩|fail
  ·unfold I64;omega
  ·have hjl:¬ (j:Int)<(LL[i].length:Int):=of_decide_eq_false (by assumption)
   rw [List.take_of_length_le (by omega)] at hno2
   refine ⟨i+1,(by (refine qa_ ?_;refine Sel4.mk rfl rfl ?_ ?_<;>(repeat' first|exact True.intro|exact rfl|exact .inl rfl|exact .inr rfl|refine And.intro ?_ ?_|fail))),⟨by omega,fun b hb=>?_⟩,by omega⟩
   rw [List.take_succ_eq_append_getElem hi2,List.flatten_append] at hb
   rcases List.mem_append.1 hb with hb|hb
   ·exact hno b hb
   ·exact hno2 b (by simpa using hb)
  ·exact hjlt (by assumption)
  ·have hM:LL[i].length≤MAXL:=by assumption
   have:=hjlt (by assumption)
   unfold I64;unfold MAXL at hM;omega
  ·have hj2:=hjlt (by assumption)
   refine ⟨j+1,(by (refine qa_ ?_;refine Sel4.mk rfl rfl ?_ ?_<;>(repeat' first|exact True.intro|exact rfl|exact .inl rfl|exact .inr rfl|refine And.intro ?_ ?_|fail))),⟨hj2,fun b hb=>?_⟩,by omega⟩
   rw [List.take_succ_eq_append_getElem hj2] at hb
   rcases List.mem_append.1 hb with hb|hb
   ·exact hno2 b hb
   ·rw [List.mem_singleton.1 hb]
    have h:=of_decide_eq_false (by assumption:decide (40000<(LL[i][j].length:Int))=false)
    omega
  ·have hj2:=hjlt (by assumption)
   have h:=of_decide_eq_true (by assumption:decide (40000<(LL[i][j].length:Int))=true)
   conv=>whnf
   exact hK _ (c2 LL[i][j] (List.mem_flatten.2 ⟨LL[i],List.getElem_mem hi2,List.getElem_mem hj2⟩) (by omega))
 all_goals
  have hk2:k<m.g.length:=by
   have h:=of_decide_eq_true (by assumption:decide ((k:Int)<(m.g.length:Int))=true)
   omega
 ·have h1:=q93_ hgf k hk
  have h2:=vs_ (hgf.node k hk2)
  rw [xb_ hk2] at h2
  have:=hgf.len.2
  unfold I64;omega
 ·have:=hgf.len.2
  unfold I64;omega
 conv=>whnf
 refine ⟨k+1,?_,hk2,by omega⟩
 have e:((insB m.g (k+1):Nat):Int)=(insB m.g k:Int)+(m.g[k].ins.length:Int):=by
  rw [x4_ hk2]
  unfold nI
  rw [xb_ hk2]
  omega
 rw [e]
 exact (by (refine qa_ ?_;refine Sel4.mk rfl rfl ?_ ?_<;>(repeat' first|exact True.intro|exact rfl|exact .inl rfl|exact .inr rfl|refine And.intro ?_ ?_|fail)))
end Gv
namespace Gv
variable [Glob] [Laid] [Nums] [Errs]
def IR (m:MachS):Prop:=zt_ m.g=0∧qu_ m.f=0∧Rt m.f m.g m
theorem qre_ {α:Type} (φ : α→Nat) (c:Nat):∀ l:List α,(∀ x∈l,φ x≤c)→(l.map φ).sum≤l.length*c
 | [],_=>by simp
 | a::r,h=>by
  have h1:=h a (by simp)
  have h2:=qre_ φ c r fun x hx=>h x (by simp [hx])
  rw [List.map_cons,List.sum_cons,List.length_cons,Nat.succ_mul]
  omega
theorem zdq_ {m:MachS} {i:Nat} (hi:i<m.p.length):szP (pr m i)≤VV m:=by
 have:=v4_ hi ⟨[],0,[],true,true⟩
 have e:szP ⟨[],0,[],true,true⟩=0:=rfl
 rw [e] at this
 omega
theorem qtd_ {m:MachS} (R:Right m):Rt m.f m.g m:=by
 have G:=gf_of R.g
 have hO:∀ i (hi:i<m.g.length),Okp m.g i (pr m i)∧szP (pr m i)≤404040:=fun i hi=>by
  have hp:i<m.p.length:=by rw [R.np];exact hi
  obtain ⟨p1,p2,p3,p4,p5,p6⟩:=qqm_ (R.p i hi hp)
  have hpr:=pr_at hp
  have hnd:ndG m.g i=m.g[i]:=xb_ hi
  have hni:nI m.g i=m.g[i].ins.length:=by unfold nI;rw [hnd]
  have hi5:=vs_ (G.node i hi)
  have ho5:=xh_ (G.node i hi)
  rw [hnd] at hi5 ho5
  have hno:nO m.g i=(zh_ m.g[i]).toNat:=by unfold nO;rw [hnd]
  refine ⟨⟨by rw [hpr,hni];exact p1,by rw [hpr,hno];omega,by rw [hpr];exact p3,by rw [hpr,hni];exact p4,fun h=>?_⟩,?_⟩
  ·rw [hpr] at h ⊢
   rw [hni]
   rcases p5 with q|q|q
   ·rw [q] at h;cases h
   ·exact .inr q
   ·exact .inl (by omega)
  ·rw [hpr]
   have h1:=qi4_ m.p[i].got 40000 fun b hb=>p6 b (List.mem_append_left _ hb)
   have h2:=qi4_ m.p[i].out 40000 fun b hb=>p6 b (List.mem_append_right _ hb)
   have h3:m.p[i].got.length*40000≤5*40000:=Nat.mul_le_mul_right 40000 (by omega)
   have h4:m.p[i].out.length*40000≤5*40000:=Nat.mul_le_mul_right 40000 (by omega)
   unfold szP
   split<;>omega
 refine ⟨⟨rfl,rfl,R.np,R.nq,fun i hi=>(hO i hi).1.got,fun i hi=>(hO i hi).1.out,fun i hi=>⟨(hO i hi).1.lo,(hO i hi).1.hi⟩⟩,R.q,fun i hi h=>(hO i hi).1.po h,?_⟩
 have h1:=qre_ szP 404040 m.p fun x hx=>by
  obtain ⟨i,hi,rfl⟩:=List.getElem_of_mem hx
  rw [←pr_at hi]
  exact (hO i (by rw [←R.np];exact hi)).2
 have h2:=qre_ szQ 40000 m.pipes fun q hq=>(xq_ ((z9_ q).trans (R.q q hq))).1
 have h3:=q93_ G m.g.length (Nat.le_refl _)
 rw [yi_,←R.nq] at h3
 have h4:=R.np
 have h5:=G.len.2
 have h6:m.p.length*404040≤60*404040:=Nat.mul_le_mul_right 404040 (by omega)
 have h7:m.pipes.length*40000≤300*40000:=Nat.mul_le_mul_right 40000 (by omega)
 have h8:=R.s
 unfold VV
 omega
theorem qsa_ {l:List Bs} {b:Bs} (h:b∈l):b.length≤l.flatten.length:=qcz_ h
theorem qam_:Steps IR:=fun m h i hi=>by
 obtain ⟨hg,hf,R⟩:=h
 have G:=gf_of hg
 have hff:∀ x∈m.f,x.b.length≤4000:=fun x hx=>((xc_ hf).2 x hx).2
 have hig:i<m.g.length:=by rw [←R.sh.np];exact hi
 have hv:=R.v
 have hs:=zdq_ hi
 have hz:(pr m i).got.flatten.length+(pr m i).out.flatten.length≤szP (pr m i):=by
  unfold szP
  omega
 have hsk:m.sunk.length≤VV m:=by unfold VV;omega
 have R2:=q2a_ R G hff hig
 have hO:=R.okp hig
 refine ⟨⟨hg,hf,R.sh.np,R.sh.nq,hig,hO.got,hO.out,fun p hp=>?_,fun b hb=>?_⟩,⟨R.ck,hO.lo,?_,by omega,by omega⟩,?_⟩
 ·have:=(xq_ ((z9_ p).trans (R.ck p hp))).1
  omega
 ·rcases List.mem_append.1 hb with hb|hb
  ·have:=qsa_ hb;omega
  ·have:=qsa_ hb;omega
 ·cases hr:(pr m i).read with
  | true=>exact .inl rfl
  | false =>
   have:=hO.lo
   rcases hO.po hr with h|h
   ·exact .inr (.inr (by omega))
   ·exact .inr (.inl h)
 ·refine ⟨?_,?_,?_⟩
  ·rw [R2.sh.mg];exact hg
  ·rw [R2.sh.mf];exact hf
  ·rw [R2.sh.mg,R2.sh.mf];exact R2
theorem ir_of {m:MachS} (R:Right m):IR m:=⟨R.g,R.f,qtd_ R⟩
theorem zcz_ {m:MachS} (R:Right m):∃ n r,FinN n m r:=zcw_ (gf_of R.g) (fun x hx=>((xc_ R.f).2 x hx).2) m (qtd_ R)
end Gv
namespace Gv
variable [Glob] [Laid]
theorem zau_:qb_ Tryz.prog 103=true:=by kernel_rfl
def q8j_:qn_:=fun args rows K=>∃ (l:List Bs),args=[.sl blV l]∧rows=[]∧(l.length*24≤140737488355328∧∀ b∈l,b.length≤140737488355328)∧K (.own 0) [.row 1 (l.map blV)]
noncomputable def q59_:List (Nat × Spec):=[]
noncomputable def q58_:List (Nat × FnI):=[]
noncomputable def qv9_:List (Nat × qn_):=[]
theorem zdd_:EnvOK ⟨Tryz.prog,tys,q59_,q58_,qv9_,[]⟩:=qs_ qt_ tys0 .nil .nil .nil rfl
theorem q1e_:q1_ Tryz.prog 103 q8j_:=by
 refine xm_ zdd_ 6 zau_ (fi:={fn:=Tryz.f103,hooks:=[],draws:=[]}) ⟨Tryz.func103,by kernel_rfl,by kernel_rfl⟩ ?_
 rintro args rows K ⟨l,rfl,rfl,⟨h1,h2⟩,hK⟩
 repeat' first|(refine fun (hl:_≤MAXL)=>?_)|fail
 conv=>whnf
 refine qg_ [6,7] (σ:=Nat) (fun i=>[(8,.int .i64 i),(3,.own 0)]) (fun i=>[.row 1 ((l.take i).map blV)]) (fun i=>i≤l.length) (fun i=>l.length-i) 0 ?_
 conv=>whnf
 refine ⟨(by (refine qf_ [none] rfl rfl ?_ ?_<;>(repeat' first|exact True.intro|exact rfl|exact .inl rfl|exact .inr rfl|refine And.intro ?_ ?_|fail))),Nat.zero_le _,fun i hi=>?_⟩
 repeat' first|refine ⟨_,_,_,LeL.refl _,?_⟩|(refine fun (b:Bool) hb=>?_;cases b<;>first|exact absurd hb (by decide)|exact nfl hb|exact nfr hb|skip)|refine And.intro (a:=I64 _) ?_ ?_|refine And.intro (a:=_≤140737488355328) ?_ ?_|refine ⟨_,rfl,?_,rfl,?_⟩|refine ⟨(fun _=>rfl),?_⟩|refine ⟨rfl,?_⟩|fail
 ·have hge:¬ (i:Int)<(l.length:Int):=of_decide_eq_false (by assumption)
  have e:i=l.length:=by omega
  subst e
  rw [List.take_length]
  conv=>whnf
  exact hK
 ·have h:=of_decide_eq_true (by assumption:decide ((i:Int)<(l.length:Int))=true)
  show i<l.length
  omega
 all_goals
  have hlt:i<l.length:=by
   have h:=of_decide_eq_true (by assumption:decide ((i:Int)<(l.length:Int))=true)
   omega
 ·have:=h2 _ (List.getElem_mem hlt)
  show (0+(List.map qd_ l[i]).length)*1≤_
  rw [List.length_map];omega
 ·show ((List.map blV (List.take i l)).length+1)*24≤_
  rw [List.length_map,List.length_take];omega
 ·unfold I64;omega
 conv=>whnf
 refine ⟨i+1,?_,hlt,by omega⟩
 rw [List.take_succ_eq_append_getElem hlt,List.map_append]
 exact (by (refine qa_ ?_;refine Sel4.mk rfl rfl ?_ ?_<;>(repeat' first|exact True.intro|exact rfl|exact .inl rfl|exact .inr rfl|refine And.intro ?_ ?_|fail)))
end Gv
namespace Gv
variable [Glob] [Laid]
structure ownZ (m:MachS):Prop where
 g:m.g.length*96≤140737488355328∧∀ n∈m.g,n.ins.length*16≤140737488355328
 f:m.f.length*40≤140737488355328∧∀ f∈m.f,f.b.length≤140737488355328
 s:m.sunk.length≤140737488355328
 q:m.pipes.length*40≤140737488355328∧∀ p∈m.pipes,p.b.length≤140737488355328
 p:m.p.length*64≤140737488355328
 go:∀ p∈m.p,(p.got.length*24≤140737488355328∧∀ b∈p.got,b.length≤140737488355328)∧(p.out.length*24≤140737488355328∧∀ b∈p.out,b.length≤140737488355328)
theorem zav_:qb_ Tryz.prog 45=true:=by kernel_rfl
def zdf_:qn_:=fun args rows K=>∃ (m:MachS),args=[q7_ m]∧rows=[]∧ownZ m∧∀ Q ex,K (.agg [.sl qh_ m.g,.sl qq_ m.f,.own 0,.own 1,.sl qd_ m.sunk]) ([.row 4 (m.pipes.map qk_),.row 5 (qo_ Q m.p),.pack Q (q3_ m.p)]++ex)
noncomputable def q6b_:List (Nat × Spec):=[]
noncomputable def q6a_:List (Nat × FnI):=[]
noncomputable def qwa_:List (Nat × qn_):=[(103,q8j_)]
theorem zde_:EnvOK ⟨Tryz.prog,tys,q6b_,q6a_,qwa_,[]⟩:=qs_ qt_ tys0 .nil .nil (.cons q1e_ .nil) rfl
theorem q1f_:q1_ Tryz.prog 45 zdf_:=by
 refine xm_ zde_ 6 zav_ (fi:={fn:=Tryz.f45,hooks:=[24],draws:=[(23,[0,1,3,0,8,31,31,127,255,511])]}) ⟨Tryz.func45,by kernel_rfl,by kernel_rfl⟩ ?_
 rintro args rows K ⟨m,rfl,rfl,hz,hK⟩
 conv=>whnf
 repeat' first|(refine fun (hl:_≤MAXL)=>?_)|refine And.intro (a:=_≤140737488355328) ?_ ?_|refine ⟨(fun _=>rfl),?_⟩|fail
 ·show (0+(List.map qd_ m.sunk).length)*1≤_
  have:=hz.s
  rw [List.length_map];omega
 conv=>whnf
 refine qg_ [19,20] (σ:=Nat) (fun k=>[(21,.int .i64 k),(1,.ptr 4 0 0),(2,.ptr 5 0 0),(3,.ptr 3 0 0)]) (fun k=>[.dead,.dead,.row 8 ((m.g.take k).map qh_),.box [.own 2,.nil,.nil,.nil,.sl qd_ m.sunk],.box (q7_ m).cells,.box [.nil,.nil,.nil,.nil,.nil]]) (fun k=>k≤m.g.length) (fun k=>m.g.length-k) 0 ?_
 conv=>whnf
 refine ⟨(wk_fz 3 (k:=1) (enc:=qd_) (l:=m.sunk) rfl (LeL.refl _)).trans (by (refine qf_ [some 2,some 3,none,some 4,some 0,some 1] rfl rfl ?_ ?_<;>(repeat' first|exact True.intro|exact rfl|exact .inl rfl|exact .inr rfl|refine And.intro ?_ ?_|fail))),Nat.zero_le _,fun k hk=>?_⟩
 have hlt:decide ((k:Int)<(m.g.length:Int))=true→k<m.g.length:=fun h=>by
  have h:=of_decide_eq_true h
  omega
 repeat' first|refine ⟨_,_,_,LeL.refl _,?_⟩|(refine fun (b:Bool) hb=>?_;cases b<;>first|exact absurd hb (by decide)|exact nfl hb|exact nfr hb|skip)|(refine fun (hl:_≤MAXL)=>?_)|refine And.intro (a:=I64 _) ?_ ?_|refine And.intro (a:=_≤140737488355328) ?_ ?_|refine ⟨_,rfl,?_,rfl,?_⟩|refine ⟨(fun _=>rfl),?_⟩|refine ⟨rfl,?_⟩|fail
 rotate_left
 ·exact hlt (by assumption)
 ·have hk2:=hlt (by assumption)
  show (0+(m.g[k].ins.map ww_).length)*16≤_
  have:=hz.g.2 _ (List.getElem_mem hk2)
  rw [List.length_map];omega
 ·show (((m.g.take k).map qh_).length+1)*96≤_
  have:=hz.g.1
  have:=hlt (by assumption)
  rw [List.length_map,List.length_take];omega
 ·have hk2:=hlt (by assumption)
  have hM:m.g.length≤MAXL:=by assumption
  unfold MAXL at hM;unfold I64;omega
 ·have hk2:=hlt (by assumption)
  conv=>whnf
  refine ⟨k+1,?_,hk2,by omega⟩
  rw [List.take_succ_eq_append_getElem hk2,List.map_append]
  exact (by (refine qf_ [some 0,some 1,some 10,some 3,some 4,some 5] rfl rfl ?_ ?_<;>(repeat' first|exact True.intro|exact rfl|exact .inl rfl|exact .inr rfl|refine And.intro ?_ ?_|fail)))
 have hkl:k=m.g.length:=by
  have h:=of_decide_eq_false (by assumption:decide ((k:Int)<(m.g.length:Int))=false)
  omega
 subst hkl
 rw [List.take_length]
 clear hlt
 conv=>whnf
 refine qg_ [1,2,3,40,41] (σ:=Nat) (fun k=>[(42,.int .i64 k)]) (fun k=>[.dead,.dead,.row 2 ((m.f.take k).map qq_),.box [.sl qh_ m.g,.own 2,.nil,.nil,.sl qd_ m.sunk],.box (q7_ m).cells,.box [.nil,.nil,.nil,.nil,.nil]]) (fun k=>k≤m.f.length) (fun k=>m.f.length-k) 0 ?_
 conv=>whnf
 refine ⟨(wk_fz 2 (k:=8) (enc:=qh_) (l:=m.g) rfl (LeL.refl _)).trans (by (refine qf_ [some 0,some 1,none,some 3,some 4,some 5] rfl rfl ?_ ?_<;>(repeat' first|exact True.intro|exact rfl|exact .inl rfl|exact .inr rfl|refine And.intro ?_ ?_|fail))),Nat.zero_le _,fun k hk=>?_⟩
 have hlt:decide ((k:Int)<(m.f.length:Int))=true→k<m.f.length:=fun h=>by
  have h:=of_decide_eq_true h
  omega
 repeat' first|refine ⟨_,_,_,LeL.refl _,?_⟩|(refine fun (b:Bool) hb=>?_;cases b<;>first|exact absurd hb (by decide)|exact nfl hb|exact nfr hb|skip)|(refine fun (hl:_≤MAXL)=>?_)|refine And.intro (a:=I64 _) ?_ ?_|refine And.intro (a:=_≤140737488355328) ?_ ?_|refine ⟨_,rfl,?_,rfl,?_⟩|refine ⟨(fun _=>rfl),?_⟩|refine ⟨rfl,?_⟩|fail
 rotate_left
 ·exact hlt (by assumption)
 ·have hk2:=hlt (by assumption)
  show (0+(m.f[k].b.map qd_).length)*1≤_
  have:=hz.f.2 _ (List.getElem_mem hk2)
  rw [List.length_map];omega
 ·show (((m.f.take k).map qq_).length+1)*40≤_
  have:=hz.f.1
  have:=hlt (by assumption)
  rw [List.length_map,List.length_take];omega
 ·have hk2:=hlt (by assumption)
  have hM:m.f.length≤MAXL:=by assumption
  unfold MAXL at hM;unfold I64;omega
 ·have hk2:=hlt (by assumption)
  conv=>whnf
  refine ⟨k+1,?_,hk2,by omega⟩
  rw [List.take_succ_eq_append_getElem hk2,List.map_append]
  exact (by (refine qf_ [some 0,some 1,some 10,some 3,some 4,some 5] rfl rfl ?_ ?_<;>(repeat' first|exact True.intro|exact rfl|exact .inl rfl|exact .inr rfl|refine And.intro ?_ ?_|fail)))
 have hkl:k=m.f.length:=by
  have h:=of_decide_eq_false (by assumption:decide ((k:Int)<(m.f.length:Int))=false)
  omega
 subst hkl
 rw [List.take_length]
 clear hlt
 conv=>whnf
 refine qg_ [1,2,3,59,60] (σ:=Nat) (fun k=>[(61,.int .i64 k)]) (fun k=>[.row 4 ((m.pipes.take k).map qk_),.dead,.dead,.box [.sl qh_ m.g,.sl qq_ m.f,.own 0,.nil,.sl qd_ m.sunk],.box (q7_ m).cells,.box [.nil,.nil,.nil,.nil,.nil]]) (fun k=>k≤m.pipes.length) (fun k=>m.pipes.length-k) 0 ?_
 conv=>whnf
 refine ⟨(wk_fz 2 (k:=2) (enc:=qq_) (l:=m.f) rfl (LeL.refl _)).trans (by (refine qf_ [none,some 0,some 1,some 3,some 4,some 5] rfl rfl ?_ ?_<;>(repeat' first|exact True.intro|exact rfl|exact .inl rfl|exact .inr rfl|refine And.intro ?_ ?_|fail))),Nat.zero_le _,fun k hk=>?_⟩
 have hlt:decide ((k:Int)<(m.pipes.length:Int))=true→k<m.pipes.length:=fun h=>by
  have h:=of_decide_eq_true h
  omega
 repeat' first|refine ⟨_,_,_,LeL.refl _,?_⟩|(refine fun (b:Bool) hb=>?_;cases b<;>first|exact absurd hb (by decide)|exact nfl hb|exact nfr hb|skip)|(refine fun (hl:_≤MAXL)=>?_)|refine And.intro (a:=I64 _) ?_ ?_|refine And.intro (a:=_≤140737488355328) ?_ ?_|refine ⟨_,rfl,?_,rfl,?_⟩|refine ⟨(fun _=>rfl),?_⟩|refine ⟨rfl,?_⟩|fail
 rotate_left
 ·exact hlt (by assumption)
 ·have hk2:=hlt (by assumption)
  show (0+(m.pipes[k].b.map qd_).length)*1≤_
  have:=hz.q.2 _ (List.getElem_mem hk2)
  rw [List.length_map];omega
 ·show (((m.pipes.take k).map qk_).length+1)*40≤_
  have:=hz.q.1
  have:=hlt (by assumption)
  rw [List.length_map,List.length_take];omega
 ·have hk2:=hlt (by assumption)
  have hM:m.pipes.length≤MAXL:=by assumption
  unfold MAXL at hM;unfold I64;omega
 ·have hk2:=hlt (by assumption)
  conv=>whnf
  refine ⟨k+1,?_,hk2,by omega⟩
  rw [List.take_succ_eq_append_getElem hk2,List.map_append]
  exact (by (refine qf_ [some 10,some 1,some 2,some 3,some 4,some 5] rfl rfl ?_ ?_<;>(repeat' first|exact True.intro|exact rfl|exact .inl rfl|exact .inr rfl|refine And.intro ?_ ?_|fail)))
 have hkl:k=m.pipes.length:=by
  have h:=of_decide_eq_false (by assumption:decide ((k:Int)<(m.pipes.length:Int))=false)
  omega
 subst hkl
 rw [List.take_length]
 clear hlt
 conv=>whnf
 refine qg_ [2,3,78,79] (σ:=Nat × Loc) (fun s=>[(80,.int .i64 s.1)]) (fun s=>[.row 4 (m.pipes.map qk_),.row 5 (qo_ s.2 (m.p.take s.1)),.pack s.2 (q3_ (m.p.take s.1)),.box [.sl qh_ m.g,.sl qq_ m.f,.own 0,.own 1,.sl qd_ m.sunk],.box (q7_ m).cells,.box [.nil,.nil,.nil,.nil,.nil]]) (fun s=>s.1≤m.p.length) (fun s=>m.p.length-s.1) (0,noLoc) ?_
 conv=>whnf
 refine ⟨(qts_ 2 noLoc rfl).trans (by (refine qf_ [some 0,none,some 2,some 3,some 4,some 5] rfl rfl ?_ ?_<;>(repeat' first|exact True.intro|exact rfl|exact .inl rfl|exact .inr rfl|refine And.intro ?_ ?_|fail))),Nat.zero_le _,fun s hs=>?_⟩
 obtain ⟨k,Q⟩:=s
 dsimp only at hs
 have hlt:decide ((k:Int)<(m.p.length:Int))=true→k<m.p.length:=fun h=>by
  have h:=of_decide_eq_true h
  omega
 conv=>whnf
 repeat' first|(refine fun (b:Bool) hb=>?_;cases b<;>first|exact absurd hb (by decide)|exact nfl hb|exact nfr hb|skip)|refine ⟨_,rfl,?_,rfl,?_⟩|fail
 rotate_left
 ·exact hlt (by assumption)
 ·have hk2:k<m.p.length:=hlt (by assumption)
  refine qjf_ ?_
  conv=>whnf
  repeat' first|exact True.intro|refine ⟨_,⟨rfl,rfl⟩,?_⟩|refine And.intro (a:=qj_ _ _ _ _ _ _ _ _) ?_ ?_|fail
  apply Exists.intro
  apply Exists.intro
  apply And.intro
  ·conv=>whnf
   refine ⟨m.p[k].got,rfl,rfl,(hz.go _ (List.getElem_mem hk2)).1,?_⟩
   exact ⟨rfl,rfl⟩
  conv=>whnf
  repeat' first|exact True.intro|refine ⟨_,⟨rfl,rfl⟩,?_⟩|refine And.intro (a:=qx_ _ _ _ _ _ _) ?_ ?_|refine And.intro (a:=qj_ _ _ _ _ _ _ _ _) ?_ ?_|refine ⟨⟨rfl,rfl⟩,?_⟩|fail
  conv=>whnf
  apply Exists.intro
  apply Exists.intro
  apply And.intro
  ·conv=>whnf
   refine ⟨m.p[k].out,rfl,rfl,(hz.go _ (List.getElem_mem hk2)).2,?_⟩
   exact ⟨rfl,rfl⟩
  conv=>whnf
  repeat' first|exact True.intro|refine ⟨_,⟨rfl,rfl⟩,?_⟩|refine ⟨_,_,⟨rfl,rfl⟩,?_⟩|refine And.intro (a:=qx_ _ _ _ _ _ _) ?_ ?_|fail
  conv=>whnf
  refine qrh_ 6 2 7 8 k rfl rfl rfl rfl (by decide) (by rw [qdl_,List.length_take];show 2*min k _=_;omega) fun Q' o1 n1 c1 o2 n2 c2 hQ' hq1 hq2=>?_
  conv=>whnf
  repeat' first|refine And.intro (a:=I64 _) ?_ ?_|refine And.intro (a:=_≤140737488355328) ?_ ?_|refine ⟨rfl,?_⟩|fail
  ·show ((qo_ Q (m.p.take k)).length+1)*64≤_
   have:=hz.p
   rw [q8_,List.length_take];omega
  ·have hM:m.p.length≤MAXL:=by assumption
   show I64 ((k:Int)+1)
   unfold MAXL at hM;unfold I64;omega
  conv=>whnf
  refine ⟨(k+1,Q'),?_,hk2,by show m.p.length-(k+1)<m.p.length-k;omega⟩
  have e1:qo_ Q' (m.p.take (k+1))=qo_ Q (m.p.take k)++[.agg [.raw (.slice o1 n1 c1),.int .i64 m.p[k].pos,.raw (.slice o2 n2 c2),.bool m.p[k].read,.bool m.p[k].over]]:=by
   have hl:(m.p.take k).length=k:=by rw [List.length_take];omega
   rw [List.take_succ_eq_append_getElem hk2,qdw_,hl,qhx_ (Q:=Q) (Q':=Q') (by rw [hl];exact hQ')]
   unfold vy_
   rw [hq1,hq2]
  have hsb:=qnr_ hk2
  show Wk _ _ _ _ [.row 4 (m.pipes.map qk_),.row 5 (qo_ Q' (m.p.take (k+1))),.pack Q' (q3_ (m.p.take (k+1))),.box [.sl qh_ m.g,.sl qq_ m.f,.own 0,.own 1,.sl qd_ m.sunk],.box (q7_ m).cells,.box [.nil,.nil,.nil,.nil,.nil]]
  rw [e1,←hsb]
  exact (by (refine qf_ [some 0,some 10,some 2,some 3,some 4,some 5] rfl rfl ?_ ?_<;>(repeat' first|exact True.intro|exact rfl|exact .inl rfl|exact .inr rfl|refine And.intro ?_ ?_|fail)))
 have hkl:k=m.p.length:=by
  have h:=of_decide_eq_false (by assumption:decide ((k:Int)<(m.p.length:Int))=false)
  omega
 subst hkl
 have hfin:=hK Q [.box [.sl qh_ m.g,.sl qq_ m.f,.own 0,.own 1,.sl qd_ m.sunk],.box (q7_ m).cells,.box [.sl qh_ m.g,.sl qq_ m.f,.own 0,.own 1,.sl qd_ m.sunk]]
 have e2:m.p.take m.p.length=m.p:=List.take_length
 rw [←e2] at hfin
 conv=>whnf
 exact hfin
end Gv
namespace Gv
variable [Glob] [Laid]
theorem qiy_:qb_ Tryz.prog 54=true:=by kernel_rfl
def qix_:qn_:=fun args rows K=>∃ (m:MachS),args=[q7_ m]∧copyZ m∧∀ Q,numK rows.length fun a=>numK (Nat.add rows.length 1) fun b=>appK rows [.row 4 (m.pipes.map qk_),.row 5 (qo_ Q m.p),.pack Q (q3_ m.p)] fun rows'=>K (.agg [.sl qh_ m.g,.sl qq_ m.f,.own a,.own b,.sl qd_ m.sunk]) rows'
theorem qcy_:q1_ Tryz.prog 54 qix_:=by
 intro w0 m0 args rows K R m' q w us C hv hT
 obtain ⟨m,rfl,hz,hK⟩:=hT
 refine qtk_ (qm2_ qu1_) C (q3g_ hv rfl) ⟨m,rfl,rfl,hz,fun Q ex=>⟨[.row 4 (m.pipes.map qk_),.row 5 (qo_ Q m.p),.pack Q (q3_ m.p)],ex,_,rfl,Nat.zero_le _,?_,rfl,?_,?_,_,rfl,?_,?_⟩⟩
 ·intro y hy
  simp only [List.mem_cons,List.not_mem_nil,or_false] at hy
  rcases hy with rfl|rfl|rfl<;>rfl
 ·intro c hc
  simp only [List.mem_cons,List.not_mem_nil,or_false] at hc
  rcases hc with rfl|rfl|rfl|rfl|rfl
  ·exact .inl rfl
  ·exact .inl rfl
  ·exact .inr ⟨0,by simp,rfl⟩
  ·exact .inr ⟨1,by simp,rfl⟩
  ·exact .inl rfl
 ·intro y hy
  simp only [List.mem_cons,List.not_mem_nil,or_false] at hy
  rcases hy with rfl|rfl|rfl<;>rfl
 ·intro c hc
  simp only [List.mem_cons,List.not_mem_nil,or_false] at hc
  rcases hc with rfl|rfl|rfl|rfl|rfl
  ·exact .inl rfl
  ·exact .inl rfl
  ·exact .inr ⟨0,rfl⟩
  ·exact .inr ⟨1,rfl⟩
  ·exact .inl rfl
 ·exact appK_ok _ _ _ (wg_ _ _ (wg_ _ _ (hK Q)))
end Gv
namespace Gv
variable [Glob] [Laid] [Nums] [Errs]
def zbn_:qn_:=fun args rows K=>zb6_ qra_ args rows K
theorem qw6_:q1_ Tryz.prog 55 zbn_:=by
 exact qw7_ qw5_
end Gv
namespace Gv
variable [Glob] [Laid] [Nums] [Errs]
theorem qke_:qb_ Tryz.prog 55=true:=by kernel_rfl
def qkd_:qn_:=fun args rows K=>∃ (m:MachS) (i r0 r1 r2 r3:Nat) (Q:Loc),args=[.ptr r0 0 0,.int .i64 i]∧rows[r0]?=some (.box [.sl qh_ m.g,.sl qq_ m.f,.own r1,.own r2,.sl qd_ m.sunk])∧rows[r1]?=some (.row 4 (m.pipes.map qk_))∧rows[r2]?=some (.row 5 (qo_ Q m.p))∧rows[r3]?=some (.pack Q (q3_ m.p))∧FocM m i∧qra_ m i∧setK rows r0 (.box [.sl qh_ (qv_ m i).1.g,.sl qq_ (qv_ m i).1.f,.own r1,.own r2,.sl qd_ (qv_ m i).1.sunk]) fun a=>setK a r1 (.row 4 ((qv_ m i).1.pipes.map qk_)) fun b=>setK b r2 (.row 5 (qo_ Q (qv_ m i).1.p)) fun c=>setK c r3 (.pack Q (q3_ (qv_ m i).1.p)) fun d=>K (.int .i64 (qv_ m i).2) d
theorem qdk_:q1_ Tryz.prog 55 qkd_:=by
 intro w0 m0 args rows K R m' q w us C hv hT
 obtain ⟨m,i,r0,r1,r2,r3,Q,rfl,h0,h1,h2,h3,hF,hZ,hK⟩:=hT
 refine qw6_ w0 m0 _ _ K R m' q w us C hv ⟨m,i,r0,r1,r2,r3,Q,rfl,h0,h1,h2,h3,hF.foc,hZ,?_⟩
 exact (z6_ _ _ _ _ (z6_ _ _ _ _ (z6_ _ _ _ _ (z6_ _ _ _ _ hK).2).2).2).2
end Gv
