/- What functions of the program come to, part 4: in every world; the conditions stand in each theorem. -/
import Derived.Test.YtffljdmmambdjacGreatDoorF3
set_option linter.unusedVariables false
set_option linter.unusedSectionVars false
set_option linter.unusedSimpArgs false
set_option maxHeartbeats 16000000
open Go Go.Proofs Gw Gp
namespace Gv
variable [Glob] [Laid] [Errs] [Nums]
theorem qvk_:qb_ Tryz.prog 159=true:=by kernel_rfl
def qmb_:Spec:=fun args K=>∃ (h:Int) (c:Cmd) (p:List Bs),args=[.int .i64 h,cmdV c,.sl blV p]∧((h=4→qz_ c=0)∧p.length≤5∧p.flatten.length≤500000000)∧K (.sl qd_ (jd h c p))
noncomputable def qpw_:List (Nat × Spec):=[(89,y1_),(210,qmy_),(211,q79_),(150,qhk_),(88,qjk_),(87,vl_)]
noncomputable def qpv_:List (Nat × FnI):=[]
noncomputable def qjg_:List (Nat × qn_):=[]
theorem qz1_:EnvOK ⟨Tryz.prog,tys,qpw_,qpv_,qjg_,[]⟩:=qs_ qt_ tys0 (.cons y8_ y9_ (.cons qwb_ qwc_ (.cons q9u_ q9v_ (.cons qe8_ qe9_ (.cons qjl_ qjm_ (.cons v5_ v6_ .nil)))))) .nil .nil rfl
theorem qvl_:Pure Tryz.prog 159 qmb_:=by
 refine qp_ qz1_ 6 (fi:={fn:=Tryz.f159,hooks:=[13,32],draws:=[(10,[0,1,3,7,15,31,63,127,255,511,1023,2047,4095,2047,10239,26623,65535,131071]),(27,[0,0,0,0,12,28,62,126,1,511])]}) ⟨Tryz.func159,by kernel_rfl,by kernel_rfl⟩ ?_
 rintro _ K ⟨h,c,p,rfl,⟨hc4,h5,hfl⟩,hK⟩
 replace hK:∀ r,r=.sl qd_ (jd h c p)→K r:=fun r h=>h ▸ hK
 have hpl:∀ b∈p,b.length≤500000000:=fun b hb=>Nat.le_trans (qcz_ hb) hfl
 obtain ⟨P,hP⟩:∃ P,p.map qc_=P:=⟨_,rfl⟩
 have hPl:P.length=p.length:=by rw [←hP,List.length_map]
 have hPi:∀ i (hi:i<p.length),P.getD i []=qc_ p[i]:=fun i hi=>by
  rw [←hP,List.getD_eq_getElem?_getD,List.getElem?_map,List.getElem?_eq_getElem hi]
  rfl
 skip
 conv=>whnf
 refine ql_ [0,2,4] (σ:=Unit) (fun _=>[(7,.own 1),(8,.int .i64 (sumN P P.length))]) (fun _=>[.box (cmdV c).cells,.row 1 (P.flatten.map strV)]) (fun _=>True) ?_
 conv=>whnf
 refine ⟨?_,fun _ _=>?_⟩
 ·repeat' first|(refine fun (hl:_≤MAXL)=>?_)|fail
  conv=>whnf
  refine qg_ [0,2,4,20,21] (σ:=Nat × List Bs × Int) (fun s=>[(22,.int .i64 s.1),(7,.own 1),(8,.int .i64 s.2.2)]) (fun s=>[.box (cmdV c).cells,.row 1 (s.2.1.map strV)]) (fun s=>s.1≤p.length∧s.2.1=(P.take s.1).flatten∧s.2.2=sumN P s.1) (fun s=>p.length-s.1) (0,[],0) ?_
  conv=>whnf
  refine ⟨(by (refine qa_ ?_;refine Sel4.mk rfl rfl ?_ ?_<;>(repeat' first|exact True.intro|exact rfl|exact .inl rfl|exact .inr rfl|refine And.intro ?_ ?_|fail))),⟨Nat.zero_le _,by simp,rfl⟩,fun s hs=>?_⟩
  obtain ⟨i,all,acc⟩:=s
  obtain ⟨hi,ha,hacc⟩:=hs
  dsimp only at hi ha hacc
  repeat' first|(refine fun (b:Bool) hb=>?_;cases b<;>first|exact absurd hb (by decide)|exact nfl hb|exact nfr hb|skip)|refine ⟨_,rfl,?_,rfl,?_⟩|fail
  ·have hge:¬ (i:Int)<(p.length:Int):=of_decide_eq_false (by assumption)
   have ei:i=P.length:=by omega
   have ea:all=P.flatten:=by rw [ha,ei,List.take_length]
   have ec:acc=sumN P P.length:=by rw [hacc,ei]
   subst ea
   subst ec
   exact ⟨(),(by (refine qa_ ?_;refine Sel4.mk rfl rfl ?_ ?_<;>(repeat' first|exact True.intro|exact rfl|exact .inl rfl|exact .inr rfl|refine And.intro ?_ ?_|fail))),trivial⟩
  ·have h:=of_decide_eq_true (by assumption:decide ((i:Int)<(p.length:Int))=true)
   show i<p.length
   omega
  have hlt:i<p.length:=by
   have h:=of_decide_eq_true (by assumption:decide ((i:Int)<(p.length:Int))=true)
   omega
  have hbl:=hpl _ (List.getElem_mem hlt)
  have hll:=xl_ p[i]
  have hnx:sumN P (i+1)=sumN P i+numH (qc_ p[i]):=by rw [sumN,hPi i hlt]
  have hnb:=qsw_ (qc_ p[i])
  have hbd:=qau_ P i
  rw [←hacc] at hbd
  have hta:(P.take (i+1)).flatten=all++qc_ p[i]:=by
   have hiP:i<P.length:=by omega
   have e:P[i]=qc_ p[i]:=by
    have:=hPi i hlt
    rw [List.getD_eq_getElem?_getD,List.getElem?_eq_getElem hiP] at this
    exact this
   rw [List.take_succ_eq_append_getElem hiP,List.flatten_append,←ha,e]
   simp
  have hal:all.length≤600000000:=by
   have h1:=congrArg (fun x=>x.flatten.length) (List.take_append_drop i P)
   have h2:((P.take i).flatten++(P.drop i).flatten).length=P.flatten.length:=by rw [←List.flatten_append,List.take_append_drop]
   have h3:=qej_ p
   have h4:=qdg_ (l:=(p.map qc_).flatten) (n:=600000000) (by omega)
   rw [hP] at h4
   rw [List.length_append] at h2
   rw [ha];omega
  refine ⟨p[i],rfl,by omega,?_⟩
  repeat' first|(refine fun (b:Bool) hb=>?_;cases b<;>first|exact absurd hb (by decide)|exact nfl hb|exact nfr hb|skip)|(refine fun (hl:_≤MAXL)=>?_)|refine And.intro (a:=I64 _) ?_ ?_|refine And.intro (a:=_≤140737488355328) ?_ ?_|refine ⟨_,rfl,?_,rfl,?_⟩|refine ⟨(fun _=>rfl),?_⟩|fail
  ·show ((all.map strV).length+((qc_ p[i]).map strV).length)*16≤140737488355328
   rw [List.length_map,List.length_map]
   omega
  ·unfold I64
   dsimp only
   omega
  ·have h:¬ (0:Int)<((qc_ p[i]).length:Int):=of_decide_eq_false (by assumption)
   have h0:qc_ p[i]=[]:=List.length_eq_zero_iff.1 (by omega)
   have e:sumN P (i+1)=acc:=by rw [hnx,h0,hacc];show _+0=_;omega
   refine ⟨(i+1,all++qc_ p[i],acc),?_,⟨hlt,hta.symm,e.symm⟩,by show p.length-(i+1)<p.length-i;omega⟩
   (refine qa_ ?_;refine Sel4.mk rfl rfl ?_ ?_<;>(repeat' first|exact True.intro|exact rfl|exact .inl rfl|exact .inr rfl|refine And.intro ?_ ?_|fail))
   show Row.row 1 _=Row.row 1 _
   rw [List.map_append]
  ·have h:(0:Int)<((qc_ p[i]).length:Int):=of_decide_eq_true (by assumption)
   have h0:0<(qc_ p[i]).length:=by omega
   exact h0
  have h:(0:Int)<((qc_ p[i]).length:Int):=of_decide_eq_true (by assumption)
  have hp0:0<(qc_ p[i]).length:=by omega
  obtain ⟨s,hs0⟩:∃ s,(qc_ p[i])[0]=s:=⟨_,rfl⟩
  have hsm:s∈qc_ p[i]:=by rw [←hs0];exact List.getElem_mem _
  have hsl:s.length≤1000000000:=by have:=vt_ p[i] s hsm;omega
  have hnh:numH (qc_ p[i])=qb8_ s:=by
   cases hq:qc_ p[i] with
   | nil=>rw [hq] at hp0;simp at hp0
   | cons x r=>simp only [hq] at hs0;rw [←hs0];rfl
  have nxt:∀ acc',acc'=sumN P (i+1)→((i+1,all++qc_ p[i],acc'):Nat × List Bs × Int).1≤p.length∧((i+1,all++qc_ p[i],acc'):Nat × List Bs × Int).2.1=(P.take (i+1)).flatten∧((i+1,all++qc_ p[i],acc'):Nat × List Bs × Int).2.2=sumN P (i+1):=fun acc' e=>⟨hlt,hta.symm,e⟩
  conv=>whnf
  refine ⟨(qc_ p[i])[0],rfl,by rw [hs0];omega,fun k hk=>?_,fun n T b hn=>?_⟩
  ·rw [hs0] at hk
   have hkb:=Lib.atoiAll_bounds hk
   have hno:qb8_ s=if 0≤k∧k≤4000∧Lib.itoa k=s then k else 0:=by unfold qb8_;rw [hk]
   have hz:∀ h:¬ (0≤k∧k≤4000∧Lib.itoa k=s),acc=sumN P (i+1):=fun h=>by rw [hnx,hnh,hno,if_neg h,hacc];omega
   repeat' first|(refine fun (b:Bool) hb=>?_;cases b<;>first|exact absurd hb (by decide)|exact nfl hb|exact nfr hb|skip)|refine And.intro (a:=I64 _) ?_ ?_|refine ⟨_,⟨rfl,rfl⟩,?_⟩|fail
   ·unfold I64
    dsimp only
    omega
   ·have h:¬ (0:Int)≤k:=of_decide_eq_false (by assumption)
    exact ⟨(i+1,all++qc_ p[i],acc),by ((refine qa_ ?_;refine Sel4.mk rfl rfl ?_ ?_<;>(repeat' first|exact True.intro|exact rfl|exact .inl rfl|exact .inr rfl|refine And.intro ?_ ?_|fail));show Row.row 1 _=Row.row 1 _;rw [List.map_append]),nxt _ (hz (fun e=>h e.1)),by show p.length-(i+1)<p.length-i;omega⟩
   ·unfold I64
    dsimp only
    omega
   ·have h:¬ k≤4000:=of_decide_eq_false (by assumption)
    exact ⟨(i+1,all++qc_ p[i],acc),by ((refine qa_ ?_;refine Sel4.mk rfl rfl ?_ ?_<;>(repeat' first|exact True.intro|exact rfl|exact .inl rfl|exact .inr rfl|refine And.intro ?_ ?_|fail));show Row.row 1 _=Row.row 1 _;rw [List.map_append]),nxt _ (hz (fun e=>h e.2.1)),by show p.length-(i+1)<p.length-i;omega⟩
   apply Exists.intro
   apply And.intro
   ·refine ⟨k,rfl,hkb,?_⟩
    exact ⟨rfl,rfl⟩
   repeat' first|(refine fun (b:Bool) hb=>?_;cases b<;>first|exact absurd hb (by decide)|exact nfl hb|exact nfr hb|skip)|refine And.intro (a:=I64 _) ?_ ?_|refine ⟨_,⟨rfl,rfl⟩,?_⟩|refine ⟨_,⟨_,rfl,?_,rfl,rfl,rfl⟩,?_⟩|fail
   ·exact hp0
   ·unfold I64
    dsimp only
    omega
   ·have h:¬ Lib.itoa k=(qc_ p[i])[0]:=of_decide_eq_false (by assumption)
    rw [hs0] at h
    exact ⟨(i+1,all++qc_ p[i],acc),by ((refine qa_ ?_;refine Sel4.mk rfl rfl ?_ ?_<;>(repeat' first|exact True.intro|exact rfl|exact .inl rfl|exact .inr rfl|refine And.intro ?_ ?_|fail));show Row.row 1 _=Row.row 1 _;rw [List.map_append]),nxt _ (hz (fun e=>h e.2.2)),by show p.length-(i+1)<p.length-i;omega⟩
   ·have h2:k≤4000:=of_decide_eq_true (by assumption)
    unfold I64
    dsimp only
    omega
   ·unfold I64
    dsimp only
    omega
   ·have h:Lib.itoa k=(qc_ p[i])[0]:=of_decide_eq_true (by assumption)
    rw [hs0] at h
    have h1:(0:Int)≤k:=of_decide_eq_true (by assumption)
    have h2:k≤4000:=of_decide_eq_true (by assumption)
    have e:acc+k=sumN P (i+1):=by rw [hnx,hnh,hno,if_pos ⟨h1,h2,h⟩,hacc]
    exact ⟨(i+1,all++qc_ p[i],acc+k),by ((refine qa_ ?_;refine Sel4.mk rfl rfl ?_ ?_<;>(repeat' first|exact True.intro|exact rfl|exact .inl rfl|exact .inr rfl|refine And.intro ?_ ?_|fail));show Row.row 1 _=Row.row 1 _;rw [List.map_append]),nxt _ e,by show p.length-(i+1)<p.length-i;omega⟩
  ·rw [hs0] at hn
   have hno:qb8_ s=0:=by
    unfold qb8_
    cases h:Lib.atoiAll s with
    | ok k=>exact absurd h (hn k)
    | _=>rfl
   have e:acc=sumN P (i+1):=by rw [hnx,hnh,hno,hacc];omega
   repeat' first|refine And.intro (a:=I64 _) ?_ ?_|refine ⟨_,⟨rfl,rfl⟩,?_⟩|fail
   ·unfold I64
    dsimp only
    omega
   exact ⟨(i+1,all++qc_ p[i],acc),by ((refine qa_ ?_;refine Sel4.mk rfl rfl ?_ ?_<;>(repeat' first|exact True.intro|exact rfl|exact .inl rfl|exact .inr rfl|refine And.intro ?_ ?_|fail));show Row.row 1 _=Row.row 1 _;rw [List.map_append]),nxt _ e,by show p.length-(i+1)<p.length-i;omega⟩
 have hpf:=qej_ p
 rw [hP] at hpf
 have hPf:=qdg_ (l:=P.flatten) (n:=600000000) (by omega)
 have hjp:=qc9_ hc4 P (by omega) (by omega)
 have hjd:jd h c p=put (wc_ h c P):=by unfold jd;rw [hP]
 rw [hjd] at hK
 have hsb:=qau_ P P.length
 skip
 conv=>whnf
 refine ql_ [] (σ:=Unit) (fun _=>[(7,.sl strV (wc_ h c P))]) (fun _=>[]) (fun _=>True) ?_
 conv=>whnf
 refine ⟨?_,fun _ _=>?_⟩
 rotate_left
 ·skip
  refine ⟨wc_ h c P,rfl,by omega,?_⟩
  skip
  exact hK _ rfl
 repeat' first|refine ⟨_,_,_,LeL.refl _,?_⟩|(refine fun (b:Bool) hb=>?_;cases b<;>first|exact absurd hb (by decide)|exact nfl hb|exact nfr hb|skip)|(refine fun (hl:_≤MAXL)=>?_)|refine ⟨rfl,?_⟩|fail
 ·have h3:¬ h=3:=of_decide_eq_false (by assumption)
  have h4:¬ h=4:=of_decide_eq_false (by assumption)
  have h2:¬ h=2:=of_decide_eq_false (by assumption)
  have e:wc_ h c P=P.flatten:=by unfold wc_;rw [if_neg h2,if_neg h3,if_neg h4]
  refine ⟨(),?_,trivial⟩
  rw [e]
  exact (wk_fz 1 rfl (LeL.refl _)).trans (by (refine qa_ ?_;refine Sel4.mk rfl rfl ?_ ?_<;>(repeat' first|exact True.intro|exact rfl|exact .inl rfl|exact .inr rfl|refine And.intro ?_ ?_|fail)))
 ·have h2:h=2:=of_decide_eq_true (by assumption)
  have e:wc_ h c P=yv_ P:=by unfold wc_;rw [if_pos h2]
  conv=>whnf
  refine ⟨p.length,rfl,by show p.length*8≤140737488355328;omega,?_⟩
  conv=>whnf
  refine qg_ [2,14] (σ:=List Nat × List Bs) (fun s=>[(7,.own 1)]) (fun s=>[.dead,.row 1 (s.2.map strV),.row 1 (s.1.map fun (k:Nat)=>intV k)]) (fun s=>s.1.length=P.length∧(∀ i (hi:i<s.1.length) (hj:i<P.length),s.1[i]≤P[i].length)∧s.2++yv_ (curP P s.1)=yv_ P∧s.2.length+(curP P s.1).flatten.length=P.flatten.length) (fun s=>(curP P s.1).flatten.length) (List.replicate P.length 0,[]) ?_
  conv=>whnf
  refine ⟨?_,⟨by simp,fun i hi hj=>by simp,by rw [q76_];rfl,by rw [q76_];simp⟩,fun s hs=>?_⟩
  ·(refine qa_ ?_;refine Sel4.mk rfl rfl ?_ ?_<;>(repeat' first|exact True.intro|exact rfl|exact .inl rfl|exact .inr rfl|refine And.intro ?_ ?_|fail))
   show Row.row 1 ((List.replicate P.length 0).map fun (k:Nat)=>intV k)=Row.row 1 (List.replicate p.length (.int .i64 0))
   rw [List.map_replicate,hPl]
   rfl
  obtain ⟨ats,out⟩:=s
  obtain ⟨hal,hab,hom,hol⟩:=hs
  dsimp only at hal hab hom hol
  repeat' first|(refine fun (hl:_≤MAXL)=>?_)|fail
  conv=>whnf
  refine qg_ [2,7,14,79,80] (σ:=Nat × Int × Bs) (fun s=>[(81,.int .i64 s.1),(15,.int .i64 s.2.1),(16,.str s.2.2)]) (fun s=>[.dead,.row 1 (out.map strV),.row 1 (ats.map fun (k:Nat)=>intV k)]) (fun s=>s.1≤p.length∧s.2.1=zdw_ (best (curP P ats) s.1)∧s.2.2=zdx_ (best (curP P ats) s.1)) (fun s=>p.length-s.1) (0,-1,[]) ?_
  conv=>whnf
  refine ⟨(by (refine qa_ ?_;refine Sel4.mk rfl rfl ?_ ?_<;>(repeat' first|exact True.intro|exact rfl|exact .inl rfl|exact .inr rfl|refine And.intro ?_ ?_|fail))),⟨Nat.zero_le _,rfl,rfl⟩,fun s hs=>?_⟩
  obtain ⟨i,bn,bs⟩:=s
  obtain ⟨hi,hbn,hbs⟩:=hs
  dsimp only at hi hbn hbs
  have hql:(curP P ats).length=P.length:=qr7_ hal
  repeat' first|(refine fun (b:Bool) hb=>?_;cases b<;>first|exact absurd hb (by decide)|exact nfl hb|exact nfr hb|skip)|refine ⟨_,rfl,?_,rfl,?_⟩|refine ⟨rfl,?_⟩|fail
  ·
   have hge:¬ (i:Int)<(p.length:Int):=of_decide_eq_false (by assumption)
   have ei:i=(curP P ats).length:=by omega
   have hb:¬ bn<0:=of_decide_eq_false (by assumption)
   obtain ⟨j,s,hbt⟩:∃ j s,best (curP P ats) i=some (j,s):=by
    cases hq:best (curP P ats) i with
    | none=>rw [hq] at hbn;rw [hbn] at hb;exact absurd (show (-1:Int)<0 by decide) hb
    | some x=>exact ⟨x.1,x.2,rfl⟩
   rw [hbt] at hbn hbs
   have hbn:bn=(j:Int):=hbn
   have hbs:bs=s:=hbs
   rw [ei] at hbt
   have hms:=qbd_ hbt
   obtain ⟨hji,⟨r,hjr⟩,-⟩:=yl_ hbt
   have hfl:=(vq_ hjr).length_eq
   rw [List.length_cons] at hfl
   have hjP:j<P.length:=by omega
   have hja:j<ats.length:=by omega
   have hset:=q4q_ hal hjP
   rw [qiz_ hal hjP] at hjr
   have hlt2:ats[j]<P[j].length:=by
    rcases Nat.lt_or_ge ats[j] P[j].length with h|h
    ·exact h
    ·rw [List.drop_eq_nil_of_le h] at hjr;cases hjr
   have hgj:(ats.map fun (k:Nat)=>intV k)[j]?=some (intV ats[j]):=by rw [List.getElem?_map,List.getElem?_eq_getElem hja];rfl
   have hjm:j<(ats.map fun (k:Nat)=>intV k).length:=by rw [List.length_map];exact hja
   have hPj:P[j].length≤500000000:=by
    have e:P[j]=qc_ (p[j]'(by omega)):=by
     have:=hPi j (by omega)
     rw [List.getD_eq_getElem?_getD,List.getElem?_eq_getElem hjP] at this
     exact this
    have h1:=xl_ (p[j]'(by omega))
    have h2:=hpl (p[j]'(by omega)) (List.getElem_mem _)
    rw [e];omega
   refine ⟨j,hbn,hjm,?_⟩
   conv=>whnf
   refine ⟨_,hgj,?_⟩
   repeat' first|refine And.intro (a:=I64 _) ?_ ?_|refine ⟨rfl,?_⟩|fail
   ·unfold I64
    omega
   refine ⟨j,hbn,hjm,?_⟩
   conv=>whnf
   refine ⟨hjm,?_⟩
   repeat' first|refine And.intro (a:=_≤140737488355328) ?_ ?_|refine ⟨rfl,?_⟩|fail
   ·show ((out.map strV).length+([bs].map strV).length)*16≤140737488355328
    rw [List.length_map,List.length_map,List.length_singleton]
    omega
   refine ⟨(ats.set j (ats[j]+1),out++[s]),?_,⟨?_,?_,?_,?_⟩,?_⟩
   ·(refine qa_ ?_;refine Sel4.mk rfl rfl ?_ ?_<;>(repeat' first|exact True.intro|exact rfl|exact .inl rfl|exact .inr rfl|refine And.intro ?_ ?_|fail))
    ·show Row.row 1 _=Row.row 1 _
     rw [hbs,List.map_append]
     rfl
    ·show Row.row 1 _=Row.row 1 _
     rw [List.map_set]
     rfl
   ·show (ats.set j _).length=_
    rw [List.length_set,hal]
   ·intro k hk hk2
    show (ats.set j (ats[j]+1))[k]≤_
    rw [List.getElem_set]
    split
    ·rename_i ejk
     subst ejk
     omega
    ·exact hab k _ hk2
   ·show (out++[s])++yv_ (curP P (ats.set j (ats[j]+1)))=_
    rw [hset,List.append_assoc,←hom,hms]
    rfl
   ·show (out++[s]).length+(curP P (ats.set j (ats[j]+1))).flatten.length=_
    rw [hset,List.length_append,List.length_singleton]
    omega
   ·show (curP P (ats.set j (ats[j]+1))).flatten.length<(curP P ats).flatten.length
    rw [hset]
    omega
  ·
   have hge:¬ (i:Int)<(p.length:Int):=of_decide_eq_false (by assumption)
   have ei:i=(curP P ats).length:=by omega
   have hb:bn<0:=of_decide_eq_true (by assumption)
   have hn:best (curP P ats) (curP P ats).length=none:=by
    rw [←ei]
    cases hq:best (curP P ats) i with
    | none=>rfl
    | some x =>
     obtain ⟨j,s⟩:=x
     rw [hq] at hbn
     have hbn:bn=(j:Int):=hbn
     omega
   rw [qbc_ hn,List.append_nil] at hom
   refine ⟨(),?_,trivial⟩
   rw [e,←hom]
   exact (wk_fz 1 rfl (LeL.refl _)).trans (by (refine qa_ ?_;refine Sel4.mk rfl rfl ?_ ?_<;>(repeat' first|exact True.intro|exact rfl|exact .inl rfl|exact .inr rfl|refine And.intro ?_ ?_|fail)))
  ·have h:=of_decide_eq_true (by assumption:decide ((i:Int)<(p.length:Int))=true)
   show i<p.length
   omega
  all_goals have hlt:i<p.length:=by (have h:=of_decide_eq_true (by assumption:decide ((i:Int)<(p.length:Int))=true);omega)
  ·have:=hpl _ (List.getElem_mem hlt)
   show p[i].length≤1000000000
   omega
  have hiP:i<P.length:=by omega
  have hia:i<ats.length:=by omega
  have hPe:P[i]=qc_ p[i]:=by
   have:=hPi i hlt
   rw [List.getD_eq_getElem?_getD,List.getElem?_eq_getElem hiP] at this
   exact this
  have hgi:(ats.map fun (k:Nat)=>intV k)[i]?=some (intV ats[i]):=by rw [List.getElem?_map,List.getElem?_eq_getElem hia];rfl
  have him:i<(ats.map fun (k:Nat)=>intV k).length:=by rw [List.length_map];exact hia
  have hqi:=qiz_ hal hiP
  rw [hPe] at hqi
  have hnx:=qxp_ (curP P ats) i
  rw [hqi] at hnx
  refine ⟨i,rfl,him,?_⟩
  conv=>whnf
  refine ⟨_,hgi,?_⟩
  repeat' first|(refine fun (b:Bool) hb=>?_;cases b<;>first|exact absurd hb (by decide)|exact nfl hb|exact nfr hb|skip)|(refine fun (hl:_≤MAXL)=>?_)|refine And.intro (a:=I64 _) ?_ ?_|refine ⟨_,⟨rfl,rfl⟩,?_⟩|refine ⟨rfl,?_⟩|fail
  ·unfold I64
   dsimp only
   omega
  ·have h:¬ (ats[i]:Int)<((qc_ p[i]).length:Int):=of_decide_eq_false (by assumption)
   have h0:(qc_ p[i]).drop ats[i]=[]:=List.drop_eq_nil_of_le (by omega)
   rw [h0] at hnx
   have e0:best (curP P ats) (i+1)=best (curP P ats) i:=hnx
   refine ⟨(i+1,bn,bs),(by (refine qa_ ?_;refine Sel4.mk rfl rfl ?_ ?_<;>(repeat' first|exact True.intro|exact rfl|exact .inl rfl|exact .inr rfl|refine And.intro ?_ ?_|fail))),⟨hlt,by rw [e0];exact hbn,by rw [e0];exact hbs⟩,by show p.length-(i+1)<p.length-i;omega⟩
  ·have h:(ats[i]:Int)<((qc_ p[i]).length:Int):=of_decide_eq_true (by assumption)
   have hal2:ats[i]<(qc_ p[i]).length:=by omega
   have hdr:(qc_ p[i]).drop ats[i]=(qc_ p[i])[ats[i]]::(qc_ p[i]).drop (ats[i]+1):=List.drop_eq_getElem_cons hal2
   have hb:¬ bn<0:=of_decide_eq_false (by assumption)
   obtain ⟨j,t,hbt⟩:∃ j t,best (curP P ats) i=some (j,t):=by
    cases hq:best (curP P ats) i with
    | none=>rw [hq] at hbn;rw [hbn] at hb;exact absurd (show (-1:Int)<0 by decide) hb
    | some x=>exact ⟨x.1,x.2,rfl⟩
   rw [hdr,hbt] at hnx
   have hbs2:bs=t:=by rw [hbs,hbt];rfl
   have hcm:best (curP P ats) (i+1)=if Op.bytesLess (qc_ p[i])[ats[i]] t=true then some (i,(qc_ p[i])[ats[i]]) else some (j,t):=hnx
   refine ⟨i,rfl,him,?_⟩
   conv=>whnf
   refine ⟨_,hgi,?_⟩
   repeat' first|(refine fun (b:Bool) hb=>?_;cases b<;>first|exact absurd hb (by decide)|exact nfl hb|exact nfr hb|skip)|refine And.intro (a:=I64 _) ?_ ?_|refine ⟨_,⟨rfl,rfl⟩,?_⟩|refine ⟨_,rfl,?_,rfl,?_⟩|fail
   ·exact hal2
   ·unfold I64
    dsimp only
    omega
   ·have hl2:Op.bytesLess (qc_ p[i])[ats[i]] bs=false:=by assumption
    rw [←hbs2,hl2] at hcm
    have e0:best (curP P ats) (i+1)=best (curP P ats) i:=by rw [hbt,hcm,hbs2];rfl
    exact ⟨(i+1,bn,bs),(by (refine qa_ ?_;refine Sel4.mk rfl rfl ?_ ?_<;>(repeat' first|exact True.intro|exact rfl|exact .inl rfl|exact .inr rfl|refine And.intro ?_ ?_|fail))),⟨hlt,by rw [e0];exact hbn,by rw [e0];exact hbs⟩,by show p.length-(i+1)<p.length-i;omega⟩
   have hl2:Op.bytesLess (qc_ p[i])[ats[i]] bs=true:=by assumption
   rw [←hbs2,hl2] at hcm
   have e0:best (curP P ats) (i+1)=some (i,(qc_ p[i])[ats[i]]):=hcm
   conv=>whnf
   refine ⟨_,⟨rfl,i,rfl,him,⟨rfl,rfl⟩⟩,?_⟩
   repeat' first|exact True.intro|refine And.intro (a:=qj_ _ _ _ _ _ _ _ _) ?_ ?_|fail
   conv=>whnf
   refine ⟨_,⟨_,hgi,⟨rfl,rfl⟩⟩,?_⟩
   repeat' first|exact True.intro|refine And.intro (a:=I64 _) ?_ ?_|refine ⟨_,⟨rfl,rfl⟩,?_⟩|refine And.intro (a:=qj_ _ _ _ _ _ _ _ _) ?_ ?_|refine ⟨_,⟨_,rfl,?_,rfl,rfl,rfl⟩,?_⟩|fail
   ·exact hal2
   ·unfold I64
    dsimp only
    omega
   exact ⟨(i+1,(i:Int),(qc_ p[i])[ats[i]]),(by (refine qa_ ?_;refine Sel4.mk rfl rfl ?_ ?_<;>(repeat' first|exact True.intro|exact rfl|exact .inl rfl|exact .inr rfl|refine And.intro ?_ ?_|fail))),⟨hlt,by rw [e0];rfl,by rw [e0];rfl⟩,by show p.length-(i+1)<p.length-i;omega⟩
  ·have h:(ats[i]:Int)<((qc_ p[i]).length:Int):=of_decide_eq_true (by assumption)
   have hal2:ats[i]<(qc_ p[i]).length:=by omega
   have hdr:(qc_ p[i]).drop ats[i]=(qc_ p[i])[ats[i]]::(qc_ p[i]).drop (ats[i]+1):=List.drop_eq_getElem_cons hal2
   have hb:bn<0:=of_decide_eq_true (by assumption)
   have hbt:best (curP P ats) i=none:=by
    cases hq:best (curP P ats) i with
    | none=>rfl
    | some x =>
     obtain ⟨j,s⟩:=x
     rw [hq] at hbn
     have hbn:bn=(j:Int):=hbn
     omega
   rw [hdr,hbt] at hnx
   conv=>whnf
   refine ⟨_,⟨rfl,i,rfl,him,⟨rfl,rfl⟩⟩,?_⟩
   repeat' first|exact True.intro|refine And.intro (a:=qj_ _ _ _ _ _ _ _ _) ?_ ?_|fail
   conv=>whnf
   refine ⟨_,⟨_,hgi,⟨rfl,rfl⟩⟩,?_⟩
   repeat' first|exact True.intro|refine And.intro (a:=I64 _) ?_ ?_|refine ⟨_,⟨rfl,rfl⟩,?_⟩|refine And.intro (a:=qj_ _ _ _ _ _ _ _ _) ?_ ?_|refine ⟨_,⟨_,rfl,?_,rfl,rfl,rfl⟩,?_⟩|fail
   ·exact hal2
   ·unfold I64
    dsimp only
    omega
   have e0:best (curP P ats) (i+1)=some (i,(qc_ p[i])[ats[i]]):=hnx
   exact ⟨(i+1,(i:Int),(qc_ p[i])[ats[i]]),(by (refine qa_ ?_;refine Sel4.mk rfl rfl ?_ ?_<;>(repeat' first|exact True.intro|exact rfl|exact .inl rfl|exact .inr rfl|refine And.intro ?_ ?_|fail))),⟨hlt,by rw [e0];rfl,by rw [e0];rfl⟩,by show p.length-(i+1)<p.length-i;omega⟩
 ·have h3:¬ h=3:=of_decide_eq_false (by assumption)
  have h4:h=4:=of_decide_eq_true (by assumption)
  have e:wc_ h c P=zq_ c P.flatten:=by unfold wc_;rw [if_neg (by omega),if_neg h3,if_pos h4]
  refine ⟨c,P.flatten,rfl,⟨hc4 h4,by omega,fun s hs=>?_⟩,?_⟩
  ·have:=q8m_ hs
   omega
  skip
  refine ⟨(),?_,trivial⟩
  rw [e]
  exact (by (refine qa_ ?_;refine Sel4.mk rfl rfl ?_ ?_<;>(repeat' first|exact True.intro|exact rfl|exact .inl rfl|exact .inr rfl|refine And.intro ?_ ?_|fail)))
 ·have h3:h=3:=of_decide_eq_true (by assumption)
  have e:wc_ h c P=[Lib.itoa (sumN P P.length)]:=by unfold wc_;rw [if_neg (by omega),if_pos h3]
  skip
  refine ⟨sumN P P.length,rfl,⟨by omega,by omega⟩,?_⟩
  skip
  refine ⟨(),?_,trivial⟩
  rw [e]
  exact (wk_fz (l:=[Lib.itoa (sumN P P.length)]) (enc:=strV) 2 rfl (LeL.refl _)).trans (by (refine qa_ ?_;refine Sel4.mk rfl rfl ?_ ?_<;>(repeat' first|exact True.intro|exact rfl|exact .inl rfl|exact .inr rfl|refine And.intro ?_ ?_|fail)))
end Gv
namespace Gv
variable [Glob] [Laid] [Nums] [Errs]
theorem qmq_:qb_ Tryz.prog 111=true:=by kernel_rfl
def qfj_:Spec:=fun args K=>∃ (n:Gp.Node) (f:List FileS) (ins:List Bs),args=[qh_ n,.sl qq_ f,.sl blV ins]∧(q5_ n=0∧n.ins.length=ins.length∧ins.flatten.length≤500000000∧qu_ f=0)∧K (.sl blV (za_ n f ins))
noncomputable def qjr_:List (Nat × Spec):=[(35,ql2_),(94,qtr_),(158,qh5_),(89,y1_),(88,qjk_),(87,vl_),(159,qmb_)]
noncomputable def qjq_:List (Nat × FnI):=[]
noncomputable def qfk_:List (Nat × qn_):=[]
theorem qqc_:EnvOK ⟨Tryz.prog,tys,qjr_,qjq_,qfk_,[]⟩:=qs_ qt_ tys0 (.cons qu9_ qva_ (.cons q3h_ q3i_ (.cons qq3_ qq4_ (.cons y8_ y9_ (.cons qjl_ qjm_ (.cons v5_ v6_ (.cons qvk_ qvl_ .nil))))))) .nil .nil rfl
theorem qmr_:Pure Tryz.prog 111 qfj_:=by
 refine qp_ qqc_ 6 (fi:={fn:=Tryz.f111,hooks:=[],draws:=[(5,[0,1,3,0,8,31,63]),(7,[0,1,0,4,12,28,63,127,255,511])]}) ⟨Tryz.func111,by kernel_rfl,by kernel_rfl⟩ ?_
 rintro _ K ⟨n,f,ins,rfl,⟨hn,hil,hfl,hcf⟩,hK⟩
 replace hK:∀ r,r=.sl blV (za_ n f ins)→K r:=fun r h=>h ▸ hK
 unfold za_ at hK
 have hf:∀ x∈f,x.b.length≤4000:=fun x hx=>((xc_ hcf).2 x hx).2
 have hfg:yu_ f n.file=getN f n.file:=qe0_ (files_iff.1 hcf).2.2
 have hshp:=z3_ hn
 have hfa:=qc2_ hf n.file
 have hpf:=xn_ (yu_ f n.file)
 have hb0:=w4_ ins 0
 have hg0:∀ h:0<ins.length,ins.getD 0 []=ins[0]:=fun h=>by rw [List.getD_eq_getElem?_getD,List.getElem?_eq_getElem h];rfl
 have hp1:=xn_ (ins.getD 0 [])
 have hl1:=xl_ (ins.getD 0 [])
 have hel:=vt_ (ins.getD 0 [])
 repeat' first|exact True.intro|(refine fun (b:Bool) hb=>?_;cases b<;>first|exact absurd hb (by decide)|exact nfl hb|exact nfr hb|skip)|refine ⟨_,⟨rfl,rfl⟩,?_⟩|refine And.intro (a:=qj_ _ _ _ _ _ _ _ _) ?_ ?_|refine ⟨_,⟨_,rfl,?_,rfl,rfl,rfl⟩,?_⟩|fail
 ·have k1:¬ n.kind=1:=of_decide_eq_false (by assumption)
  have k2:¬ n.kind=2:=of_decide_eq_false (by assumption)
  have k3:¬ n.kind=3:=of_decide_eq_false (by assumption)
  have k4:¬ n.kind=4:=of_decide_eq_false (by assumption)
  rw [if_neg k1,if_neg k2,if_neg k3,if_neg k4] at hK
  conv=>whnf
  exact ⟨Bs,blV,hK _ rfl⟩
 ·have k4:n.kind=4:=of_decide_eq_true (by assumption)
  rw [if_neg (by omega),if_neg (by omega),if_neg (by omega),if_pos k4] at hK
  have hjc:z2_ n.how n.c=0:=by
   rcases hshp with h|h|h|h|h
   ·omega
   ·omega
   ·omega
   ·exact h.2.2.2
   ·omega
  conv=>whnf
  refine ⟨n.how,n.c,ins,rfl,⟨(yf_ hjc).1,by omega,hfl⟩,?_⟩
  conv=>whnf
  refine ⟨Bs,blV,[jd n.how n.c ins],LeL.refl _,?_⟩
  exact hK _ rfl
 ·have k3:n.kind=3:=of_decide_eq_true (by assumption)
  show 0<ins.length
  omega
 ·have k3:n.kind=3:=of_decide_eq_true (by assumption)
  have h0:0<ins.length:=by omega
  have hc:qz_ n.c=0:=by
   rcases hshp with h|h|h|h|h
   ·omega
   ·omega
   ·exact h.2.2
   ·omega
   ·omega
  rw [if_neg (by omega),if_neg (by omega),if_pos k3] at hK
  rw [hg0 h0] at hb0 hp1 hl1 hel hK
  have hlp:=yb_ hc (qc_ ins[0]) (by omega)
  apply Exists.intro
  apply And.intro
  ·refine ⟨ins[0],rfl,by omega,?_⟩
   exact ⟨rfl,rfl⟩
  skip
  apply Exists.intro
  apply And.intro
  ·refine ⟨n.c,qc_ ins[0],rfl,⟨hc,by omega,fun s hs=>by have:=hel s hs;omega⟩,?_⟩
   exact ⟨rfl,rfl⟩
  skip
  apply Exists.intro
  apply And.intro
  ·refine ⟨zq_ n.c (qc_ ins[0]),rfl,by omega,?_⟩
   exact ⟨rfl,rfl⟩
  skip
  refine ⟨_,⟨Bs,blV,[put (zq_ n.c (qc_ ins[0]))],LeL.refl _,rfl,rfl⟩,?_⟩
  repeat' first|refine ⟨_,⟨rfl,rfl⟩,?_⟩|fail
  conv=>whnf
  exact hK _ rfl
 ·have k2:n.kind=2:=of_decide_eq_true (by assumption)
  show 0<ins.length
  omega
 ·have k2:n.kind=2:=of_decide_eq_true (by assumption)
  have h0:0<ins.length:=by omega
  obtain ⟨w,hw⟩:∃ w:Nat,n.wide=w:=⟨n.wide.toNat,by omega⟩
  rw [if_neg (by omega),if_pos k2] at hK
  rw [hg0 h0] at hb0 hp1 hl1 hel hK
  rw [hw,Int.toNat_natCast] at hK
  apply Exists.intro
  apply And.intro
  ·refine ⟨ins[0],w,by rw [hw],⟨by omega,by omega,by omega⟩,?_⟩
   exact ⟨rfl,rfl⟩
  repeat' first|refine ⟨_,⟨rfl,rfl⟩,?_⟩|fail
  conv=>whnf
  exact hK _ rfl
 ·have k1:n.kind=1:=of_decide_eq_true (by assumption)
  rw [if_pos k1] at hK
  conv=>whnf
  refine ⟨f,n.file,rfl,?_⟩
  rw [hfg] at hK hfa
  refine ⟨getN f n.file,rfl,by omega,?_⟩
  skip
  conv=>whnf
  refine ⟨Bs,blV,[qag_ (getN f n.file)],LeL.refl _,?_⟩
  exact hK _ rfl
end Gv
namespace Gv
variable [Glob] [Laid] [Nums] [Errs]
def qfi_:qn_:=fun args rows K=>∃ (n:Gp.Node) (f:List FileS) (ins:List Bs),args=[qh_ n,.sl qq_ f,.own 0]∧rows=[.row 1 (ins.map blV)]∧(q5_ n=0∧n.ins.length=ins.length∧ins.flatten.length≤500000000∧qu_ f=0)∧K (.sl blV (za_ n f ins)) [.fz blV ins]
theorem qgr_:q1_ Tryz.prog 111 qfi_:=by
 intro w0 m0 args rows K R m q w us C hv hT
 obtain ⟨n,f,ins,rfl,rfl,hc,hK⟩:=hT
 refine q0d_ (E:=⟨Tryz.prog,tys,[(111,qfj_)],[],[],[]⟩) (qs_ qt_ tys0 (.cons qmq_ qmr_ .nil) .nil .nil rfl) rfl C hv ?_
 conv=>whnf
 refine ⟨Bs,blV,ins,LeL.refl _,?_⟩
 conv=>whnf
 exact ⟨n,f,ins,rfl,hc,hK⟩
end Gv
namespace Gv
variable [Glob] [Laid] [Nums] [Errs]
def yr_ (f1 tp ti:Nat) (m:MachS) (i:Nat) (u:List (List Int × Int)):Rows:=[.box [.ptr 0 0 0],.box [.own 7],.row 1 (frsN m.g m.g.length),.mp tp ti .pair intV u,.box [.ptr 2 i 0],.box (qh_ (ndG m.g i)).cells,.box [.fn f1 []]]
theorem qxx_ (a:List Bs):catL a []=a:=by cases a<;>rfl
theorem qg1_:∀ (a b:List Bs) (k:Nat) (hk:k<a.length) (hb:k<b.length),(catL a (b.take k)).set k (a[k]++b[k])=catL a (b.take (k+1))
 | x::r,y::s,0,_,_=>by simp [catL,qxx_]
 | x::r,y::s,k+1,hk,hb=>by
  have:=qg1_ r s k (by simpa using hk) (by simpa using hb)
  simp only [List.take_succ_cons,catL,List.set_cons_succ,List.getElem_cons_succ]
  rw [this]
theorem qzf_:qb_ Tryz.prog 110=true:=by kernel_rfl
def q5a_:qn_:=fun args rows K=>∃ (m:MachS) (i:Nat) (els:List V) (u:List (List Int × Int)),args=[.ptr 9 0 0,.ptr 10 0 0,.ptr 5 0 0,.ptr 11 0 0]∧FocOK m i els∧(pr m i).got.flatten.length≤500000000∧rows=focR m i els++yr_ 109 47 3 m i u∧∀ a ex,a≠4→(focQ (z5_ m i) i els a 4++ex)[a]?=some (.row 1 (List.replicate (pr m i).got.length .nil))→(focQ (z5_ m i) i els a 4++ex)[4]?=some (.row 1 ((pr (z5_ m i) i).out.map blV))→K (.tup []) (focQ (z5_ m i) i els a 4++ex)
noncomputable def qvg_:List (Nat × Spec):=[]
noncomputable def qvf_:List (Nat × FnI):=[(109,{fn:=Tryz.f109,hooks:=[],draws:=[]})]
noncomputable def ql5_:List (Nat × qn_):=[(111,qfi_)]
theorem q49_:EnvOK ⟨Tryz.prog,tys,qvg_,qvf_,ql5_,[(999999999,[]),(47,[true,true])]⟩:=qs_ qt_ tys0 .nil (.cons (by kernel_rfl) ⟨Tryz.func109,by kernel_rfl,by kernel_rfl⟩ .nil) (.cons qgr_ .nil) (by kernel_rfl)
theorem qph_:q1_ Tryz.prog 110 q5a_:=by
 refine xm_ q49_ 6 qzf_ (fi:={fn:=Tryz.f110,hooks:=[6],draws:=[(1,[0,0,2,6,14,0,32,96,224,511,1023,0]),(4,[0,0,2,6,14,0,62,0,255]),(6,[0,0,2,6,14,30,62,127,255,511])]}) ⟨Tryz.func110,by kernel_rfl,by kernel_rfl⟩ ?_
 rintro args rows K ⟨m,i,els,u,rfl,h,hsz,rfl,hK⟩
 have hei:(els.set i (q6_ (pr m i)))[i]?=some (q6_ (pr m i)):=List.getElem?_set_self (by rw [h.nl];exact h.lt)
 have hel:(els.set i (q6_ (pr m i))).length=m.g.length:=by rw [List.length_set,h.nl]
 have hpe:=h.pe
 have hgf:=gf_of h.g
 have hnd:ndG m.g i=m.g[i]'(h.lt):=xb_ h.lt
 unfold focR yr_
 conv=>whnf
 refine ⟨_,hei,?_⟩
 conv=>whnf
 have hset:∀ x y:V,(els.set i x).set i y=els.set i y:=fun x y=>by rw [List.set_set]
 refine ql_ [0] (σ:=Unit) (fun _=>[]) (fun _=>[.box [.sl qh_ m.g,.sl qq_ m.f,.own 1,.own 2,.sl qd_ m.sunk],.row 4 (m.pipes.map qk_),.rowq 5 (els.set i (q6_ ⟨(pr m i).got,(pr m i).pos,(pr m i).out,true,(pr m i).over⟩)),.fz blV (pr m i).got,.row 1 ((catL (pr m i).out (za_ (ndG m.g i) m.f (pr m i).got)).map blV)]++yr_ 109 47 3 m i u) (fun _=>True) ?_
 unfold yr_
 conv=>whnf
 refine ⟨?_,fun _ _=>?_⟩
 ·have hcn:q5_ (ndG m.g i)=0:=hgf.node i h.lt
  have hil:(ndG m.g i).ins.length=(pr m i).got.length:=h.got.symm
  have hfb:∀ x∈m.f,x.b.length≤4000:=fun x hx=>((xc_ h.f).2 x hx).2
  have hml:=qfe_ hcn hil hfb hsz
  have hmo:=qdc_ (f:=m.f) (ins:=(pr m i).got) hcn
  conv=>whnf
  repeat' first|exact True.intro|refine ⟨_,⟨rfl,rfl⟩,?_⟩|refine And.intro (a:=qj_ _ _ _ _ _ _ _ _) ?_ ?_|fail
  conv=>whnf
  apply Exists.intro
  apply And.intro
  ·conv=>whnf
   refine ⟨_,List.getElem?_set_self (by rw [hel];exact h.lt),?_⟩
   repeat' first|refine ⟨rfl,?_⟩|fail
   exact rfl
  conv=>whnf
  refine ⟨trivial,?_⟩
  conv=>whnf
  apply Exists.intro
  apply Exists.intro
  apply And.intro
  ·refine ⟨ndG m.g i,m.f,(pr m i).got,rfl,rfl,⟨hcn,hil,hsz,h.f⟩,?_⟩
   repeat' first|refine ⟨rfl,?_⟩|fail
   exact rfl
  conv=>whnf
  repeat' first|exact True.intro|refine ⟨_,⟨rfl,rfl⟩,?_⟩|refine ⟨_,(fun _=>⟨rfl,rfl⟩),?_⟩|refine And.intro (a:=qx_ _ _ _ _ _ _) ?_ ?_|fail
  conv=>whnf
  refine qg_ [0,3,18,19] (σ:=Nat) (fun k=>[(20,.int .i64 k)]) (fun k=>[.box [.sl qh_ m.g,.sl qq_ m.f,.own 1,.own 2,.sl qd_ m.sunk],.row 4 (m.pipes.map qk_),.rowq 5 (els.set i (q6_ ⟨(pr m i).got,(pr m i).pos,(pr m i).out,true,(pr m i).over⟩)),.fz blV (pr m i).got,.row 1 ((catL (pr m i).out ((za_ (ndG m.g i) m.f (pr m i).got).take k)).map blV)]++yr_ 109 47 3 m i u) (fun k=>k≤(za_ (ndG m.g i) m.f (pr m i).got).length) (fun k=>(za_ (ndG m.g i) m.f (pr m i).got).length-k) 0 ?_
  unfold yr_
  conv=>whnf
  refine ⟨?_,Nat.zero_le _,fun k hk=>?_⟩
  ·have hc0:catL (pr m i).out ((za_ (ndG m.g i) m.f (pr m i).got).take 0)=(pr m i).out:=by rw [List.take_zero];cases (pr m i).out<;>rfl
   rw [hset,hc0]
   refine qf_ [some 0,some 1,some 2,some 3,some 4,some 5,some 6,some 7,some 8,some 9,some 10,some 11] rfl rfl ?_ ?_<;>(repeat' (first|exact qaw_ hpe ⟨rfl,rfl,rfl,Or.inr rfl,rfl,trivial⟩|exact True.intro|exact rfl|exact Or.inl rfl|exact Or.inr rfl|refine And.intro ?_ ?_|fail))
   all_goals done
  have hei2:(els.set i (q6_ ⟨(pr m i).got,(pr m i).pos,(pr m i).out,true,(pr m i).over⟩))[i]?=some (q6_ ⟨(pr m i).got,(pr m i).pos,(pr m i).out,true,(pr m i).over⟩):=List.getElem?_set_self (by rw [h.nl];exact h.lt)
  repeat' first|exact True.intro|(refine fun (b:Bool) hb=>?_;cases b<;>first|exact absurd hb (by decide)|exact nfl hb|exact nfr hb|skip)|refine ⟨_,⟨rfl,rfl⟩,?_⟩|refine And.intro (a:=qj_ _ _ _ _ _ _ _ _) ?_ ?_|refine ⟨_,rfl,?_,rfl,?_⟩|fail
  ·have hkl:k=(za_ (ndG m.g i) m.f (pr m i).got).length := by
    have h:=of_decide_eq_false (by assumption:decide ((k:Int)<((za_ (ndG m.g i) m.f (pr m i).got).length:Int))=false)
    omega
   subst hkl
   conv=>whnf
   refine ⟨(),?_,trivial⟩
   rw [List.take_length]
   exact (by (refine qf_ [some 0,some 1,some 2,some 3,some 4,some 5,some 6,some 7,some 8,some 9,some 10,some 11] rfl rfl ?_ ?_<;>(repeat' (first|exact qw_ hpe rfl rfl|exact True.intro|exact rfl|exact Or.inl rfl|exact Or.inr rfl|refine And.intro ?_ ?_|fail))))
  ·have h:=of_decide_eq_true (by assumption:decide ((k:Int)<((za_ (ndG m.g i) m.f (pr m i).got).length:Int))=true)
   exact (by omega:k<(za_ (ndG m.g i) m.f (pr m i).got).length)
  have hk2:k<(za_ (ndG m.g i) m.f (pr m i).got).length:=by
   have h:=of_decide_eq_true (by assumption:decide ((k:Int)<((za_ (ndG m.g i) m.f (pr m i).got).length:Int))=true)
   omega
  have hko:k<(pr m i).out.length:=by
   have h1:=h.out
   unfold nO at h1
   omega
  have hcl:k<(catL (pr m i).out ((za_ (ndG m.g i) m.f (pr m i).got).take k)).length:=by rw [qai_];exact hko
  have hgc:((catL (pr m i).out ((za_ (ndG m.g i) m.f (pr m i).got).take k)).map blV)[k]?=some (blV (pr m i).out[k]):=by
   rw [List.getElem?_map,List.getElem?_eq_getElem hcl]
   have h1:=qn9_ (pr m i).out ((za_ (ndG m.g i) m.f (pr m i).got).take k) k hko
   rw [List.getD_eq_getElem?_getD,List.getElem?_eq_getElem hcl,List.getD_eq_getElem?_getD,List.getElem?_eq_getElem hko,List.getD_eq_getElem?_getD,List.getElem?_eq_none (by rw [List.length_take];omega)] at h1
   simp only [Option.getD_some,Option.getD_none,List.append_nil] at h1
   rw [h1];rfl
  have hol:((pr m i).out[k]).length≤400000000:=h.big _ (List.mem_append_right _ (List.getElem_mem hko))
  have hnl:=qcz_ (List.getElem_mem hk2)
  conv=>whnf
  apply Exists.intro
  apply And.intro
  ·conv=>whnf
   refine ⟨_,hei2,?_⟩
   repeat' first|refine ⟨rfl,?_⟩|fail
   exact rfl
  conv=>whnf
  refine ⟨trivial,?_⟩
  conv=>whnf
  repeat' first|refine ⟨_,⟨rfl,rfl⟩,?_⟩|fail
  conv=>whnf
  apply Exists.intro
  apply And.intro
  ·refine ⟨rfl,k,rfl,by rw [List.length_map];exact hcl,?_⟩
   exact ⟨rfl,rfl⟩
  conv=>whnf
  refine ⟨trivial,?_⟩
  conv=>whnf
  repeat' first|refine ⟨_,⟨rfl,rfl⟩,?_⟩|fail
  apply Exists.intro
  apply Exists.intro
  apply And.intro
  ·conv=>whnf
   refine ⟨_,hgc,?_⟩
   repeat' first|refine And.intro (a:=_≤140737488355328) ?_ ?_|refine ⟨(fun _=>rfl),?_⟩|fail
   ·show (0+((pr m i).out[k].map qd_).length)*1≤_
    rw [List.length_map];omega
   ·show (([]++(pr m i).out[k].map qd_).length+((za_ (ndG m.g i) m.f (pr m i).got)[k].map qd_).length)*1≤_
    rw [List.nil_append,List.length_map,List.length_map];omega
   conv=>whnf
   refine ⟨UInt8,qd_,(pr m i).out[k]++(za_ (ndG m.g i) m.f (pr m i).got)[k],LeL.of (by simp),?_⟩
   conv=>whnf
   refine ⟨by rw [List.length_map];exact hcl,?_⟩
   exact ⟨rfl,rfl⟩
  conv=>whnf
  repeat' first|exact True.intro|refine And.intro (a:=I64 _) ?_ ?_|refine And.intro (a:=qx_ _ _ _ _ _ _) ?_ ?_|fail
  ·have ho:=(xh_ hcn).2
   unfold I64
   omega
  conv=>whnf
  refine ⟨k+1,?_,by omega,by omega⟩
  have hst:=qg1_ (pr m i).out (za_ (ndG m.g i) m.f (pr m i).got) k hko hk2
  rw [←hst,List.map_set]
  exact (by (refine qf_ [some 0,some 1,some 2,some 3,some 4,some 5,some 6,some 7,some 8,some 9,some 10,some 11] rfl rfl ?_ ?_<;>(repeat' (first|exact qw_ hpe rfl rfl|exact True.intro|exact rfl|exact Or.inl rfl|exact Or.inr rfl|refine And.intro ?_ ?_|fail))))
 have hei2:(els.set i (q6_ ⟨(pr m i).got,(pr m i).pos,(pr m i).out,true,(pr m i).over⟩))[i]?=some (q6_ ⟨(pr m i).got,(pr m i).pos,(pr m i).out,true,(pr m i).over⟩):=List.getElem?_set_self (by rw [h.nl];exact h.lt)
 conv=>whnf
 repeat' first|exact True.intro|refine ⟨_,⟨rfl,rfl⟩,?_⟩|refine And.intro (a:=qj_ _ _ _ _ _ _ _ _) ?_ ?_|fail
 conv=>whnf
 apply Exists.intro
 apply And.intro
 ·conv=>whnf
  refine ⟨_,hei2,?_⟩
  repeat' first|refine ⟨rfl,?_⟩|fail
  exact rfl
 conv=>whnf
 refine ⟨trivial,?_⟩
 conv=>whnf
 repeat' first|exact True.intro|refine ⟨_,(fun _=>⟨rfl,rfl⟩),?_⟩|refine And.intro (a:=qj_ _ _ _ _ _ _ _ _) ?_ ?_|fail
 conv=>whnf
 apply Exists.intro
 apply Exists.intro
 apply And.intro
 ·conv=>whnf
  refine ⟨rfl,?_⟩
  conv=>whnf
  refine ⟨(pr m i).got.length,rfl,?_,?_⟩
  ·have:=h.got
   have hi5:=vs_ (hgf.node i h.lt)
   unfold nI at this
   show (pr m i).got.length*24≤_
   omega
  ·exact ⟨rfl,rfl⟩
 conv=>whnf
 repeat' first|exact True.intro|refine ⟨_,⟨rfl,rfl⟩,?_⟩|refine And.intro (a:=qx_ _ _ _ _ _ _) ?_ ?_|refine ⟨⟨rfl,rfl⟩,?_⟩|fail
 conv=>whnf
 apply Exists.intro
 apply Exists.intro
 apply And.intro
 ·conv=>whnf
  refine ⟨_,hei2,?_⟩
  exact ⟨rfl,rfl⟩
 conv=>whnf
 repeat' first|exact True.intro|refine And.intro (a:=qx_ _ _ _ _ _ _) ?_ ?_|fail
 conv=>whnf
 rw [hset]
 have hpi:pr (z5_ m i) i=w3_ (ndG m.g i) m.f (pr m i):=by
  unfold z5_
  rw [xe_ (by rw [h.np];exact h.lt),if_pos rfl]
 have e:focQ (z5_ m i) i els 12 4=[.box [.sl qh_ m.g,.sl qq_ m.f,.own 1,.own 2,.sl qd_ m.sunk],.row 4 (m.pipes.map qk_),.rowq 5 (els.set i (.agg [.own 12,.int .i64 (pr m i).pos,.own 4,.bool true,.bool (pr m i).over]))]:=by
  unfold focQ
  rw [hpi]
  rfl
 have hfin:=hK 12 ([.fz blV (pr m i).got,.row 1 ((catL (pr m i).out (za_ (ndG m.g i) m.f (pr m i).got)).map blV)]++yr_ 109 47 3 m i u++[.row 1 (List.replicate (pr m i).got.length .nil)]) (by decide) rfl (by rw [hpi];rfl)
 rw [e] at hfin
 exact hfin
end Gv
namespace Gv
variable [Glob] [Laid] [Nums] [Errs]
theorem q5n_ (n:Nat):LeL (List.replicate n V.nil) ((List.replicate n ([]:Bs)).map blV):=by
 refine ⟨by simp,fun i x y hx hy=>?_⟩
 rw [List.getElem?_replicate] at hx
 split at hx
 case isFalse=>cases hx
 cases hx
 rw [List.getElem?_map,List.getElem?_replicate,if_pos (by assumption)] at hy
 cases hy
 refine ⟨rfl,fun j v v' hv hv' m u h=>?_⟩
 match j,hv,hv' with
 | 0,hv,hv' =>
  simp [V.cells] at hv
  subst hv
  have:blV []=v':=by simpa [V.cells,blV] using hv'
  subst this
  cases h
  exact .sl0 (Nat.zero_le _) fun _=>rfl
 | n+1,hv,_=>simp [V.cells] at hv
theorem q48_:qb_ Tryz.prog 110=true:=by kernel_rfl
def qze_:qn_:=fun args rows K=>∃ (m:MachS) (i:Nat) (els:List V) (u:List (List Int × Int)),args=[.ptr 9 0 0,.ptr 10 0 0,.ptr 5 0 0,.ptr 11 0 0]∧FocOK m i els∧(pr m i).got.flatten.length≤500000000∧rows=focR m i els++yr_ 109 47 3 m i u∧∀ a ex,a≠4→(focQ (z5_ m i) i els a 4++ex)[a]?=some (.row 1 ((pr (z5_ m i) i).got.map blV))→(focQ (z5_ m i) i els a 4++ex)[4]?=some (.row 1 ((pr (z5_ m i) i).out.map blV))→K (.tup []) (focQ (z5_ m i) i els a 4++ex)
theorem qve_:q1_ Tryz.prog 110 qze_:=by
 intro w0 m0 args rows K R m' q w us C hv hT
 obtain ⟨m,i,els,u,rfl,h,hsz,rfl,hK⟩:=hT
 have hpi:pr (z5_ m i) i=w3_ (ndG m.g i) m.f (pr m i):=by
  unfold z5_
  rw [xe_ (by rw [h.np];exact h.lt),if_pos rfl]
 refine q1s_ qph_ w0 m0 _ _ K R m' q w us C hv ⟨m,i,els,u,rfl,h,hsz,rfl,fun a ex ha h1 h2=>.inr ⟨a,1,_,_,h1,q5n_ _,?_⟩⟩
 have ha3:3≤a:=by
  rcases Nat.lt_or_ge a 3 with h3|h3
  ·exfalso
   have:a=0∨a=1∨a=2:=by omega
   rcases this with rfl|rfl|rfl<;>(unfold focQ at h1;simp at h1)
  ·exact h3
 have hal:=(List.getElem?_eq_some_iff.1 h1).1
 have e3:(focQ (z5_ m i) i els a 4).length=3:=rfl
 have key:(focQ (z5_ m i) i els a 4++ex).set a (.row 1 ((List.replicate (pr m i).got.length ([]:Bs)).map blV))=focQ (z5_ m i) i els a 4++ex.set (a-3) (.row 1 ((List.replicate (pr m i).got.length ([]:Bs)).map blV)):=by
  rw [List.set_append_right _ _ (by rw [e3];exact ha3),e3]
 rw [key]
 refine hK a _ ha ?_ ?_
 ·rw [←key,List.getElem?_set_self hal,hpi]
  unfold w3_
  rw [List.map_const']
 ·rw [←key,List.getElem?_set_ne ha]
  exact h2
end Gv
namespace Gv
variable [Glob] [Laid]
def wrtP (p:PipeS) (b:Bs):PipeS × Nat × Int:=if p.closed=true then (zP,0,7) else (wo_ p b,xs_ p b,0)
theorem q1h_ {p:PipeS} (h:qi_ p=0):0≤p.room∧p.room≤1000∧(p.room=0∨(p.b.length:Int)≤p.room)∧p.b.length≤40000∧(p.shut=true→p.b=[]):=by
 unfold qi_ at h
 split at h
 ·cases h
 split at h
 ·cases h
 split at h
 ·cases h
 rename_i h1 h2 h3
 refine ⟨by omega,by omega,by omega,by omega,fun hs=>?_⟩
 exact Decidable.not_not.1 fun h4=>h3 ⟨hs,h4⟩
theorem qrp_:qb_ Tryz.prog 112=true:=by kernel_rfl
def qid_:Spec:=fun args K=>∃ (p:PipeS) (b:Bs),args=[qk_ p,.sl qd_ b]∧(qi_ p=0∧b.length≤400000000)∧K (.tup [qk_ (wrtP p b).1,.int .i64 ((wrtP p b).2.1:Nat),.int .i64 (wrtP p b).2.2])
noncomputable def qn3_:List (Nat × Spec):=[]
noncomputable def qn2_:List (Nat × FnI):=[]
noncomputable def qgy_:List (Nat × qn_):=[]
theorem qxj_:EnvOK ⟨Tryz.prog,tys,qn3_,qn2_,qgy_,[]⟩:=qs_ qt_ tys0 .nil .nil .nil rfl
theorem qrq_:Pure Tryz.prog 112 qid_:=by
 refine qp_ qxj_ 6 (fi:={fn:=Tryz.f112,hooks:=[8],draws:=[]}) ⟨Tryz.func112,by kernel_rfl,by kernel_rfl⟩ ?_
 rintro _ K ⟨p,b,rfl,⟨hc,hb⟩,hK⟩
 replace hK:∀ r,r=.tup [qk_ (wrtP p b).1,.int .i64 ((wrtP p b).2.1:Nat),.int .i64 (wrtP p b).2.2]→K r:=fun r h=>h ▸ hK
 obtain ⟨r1,r2,r3,r4,r5⟩:=q1h_ hc
 obtain ⟨rm,hrm⟩:∃ rm:Nat,(rm:Int)=if p.room=0 then 40000 else p.room:=⟨(if p.room=0 then 40000 else p.room).toNat,by split<;>omega⟩
 unfold wrtP at hK
 repeat' first|(refine fun (b:Bool) hb=>?_;cases b<;>first|exact absurd hb (by decide)|exact nfl hb|exact nfr hb|skip)|(refine fun (hl:_≤MAXL)=>?_)|fail
 rotate_left
 ·have hcl:p.closed=false:=by assumption
  have hsh:p.shut=true:=by assumption
  rw [if_neg (by rw [hcl];decide)] at hK
  conv=>whnf
  refine hK _ ?_
  unfold wo_ xs_
  rw [if_pos hsh,if_pos hsh]
  rfl
 ·have hcl:p.closed=true:=by assumption
  rw [if_pos hcl] at hK
  conv=>whnf
  refine ⟨UInt8,qd_,?_⟩
  refine hK _ ?_
  rfl
 have hcl:p.closed=false:=by assumption
 have hsh:p.shut=false:=by assumption
 rw [if_neg (by rw [hcl];decide)] at hK
 have hcN:xs_ p b=min b.length (rm-p.b.length):=by
  unfold xs_
  rw [if_neg (by rw [hsh];decide)]
  split at hrm
  ·rw [if_neg (by omega)];omega
  ·rw [if_pos (by omega)];omega
 have htP:wo_ p b=⟨p.b++b.take (xs_ p b),p.room,p.closed,p.shut⟩:=by
  unfold wo_
  rw [if_neg (by rw [hsh];decide)]
 conv=>whnf
 refine ql_ [1,2,4] (σ:=Unit) (fun _=>[(7,.int .i64 (rm:Int))]) (fun _=>[.box (qk_ p).cells,.box [.nil,.int .i64 0,.bool false,.bool false]]) (fun _=>True) ?_
 conv=>whnf
 refine ⟨?_,fun _ _=>?_⟩
 ·repeat' first|(refine fun (b:Bool) hb=>?_;cases b<;>first|exact absurd hb (by decide)|exact nfl hb|exact nfr hb|skip)|fail
  all_goals (try (conv=>whnf))
  ·have h0:p.room=0:=by simpa using ‹(!decide (p.room=0))=false›
   rw [if_pos h0] at hrm
   rw [hrm]
   exact ⟨(),(by (refine qa_ ?_;refine Sel4.mk rfl rfl ?_ ?_<;>(repeat' first|exact True.intro|exact rfl|exact .inl rfl|exact .inr rfl|refine And.intro ?_ ?_|fail))),trivial⟩
  ·have h0:¬ p.room=0:=by simpa using ‹(!decide (p.room=0))=true›
   rw [if_neg h0] at hrm
   rw [hrm]
   exact ⟨(),(by (refine qa_ ?_;refine Sel4.mk rfl rfl ?_ ?_<;>(repeat' first|exact True.intro|exact rfl|exact .inl rfl|exact .inr rfl|refine And.intro ?_ ?_|fail))),trivial⟩
 repeat' first|refine And.intro (a:=_≤140737488355328) ?_ ?_|refine ⟨(fun _=>rfl),?_⟩|fail
 ·show (0+(p.b.map qd_).length)*1≤_
  rw [List.length_map];omega
 conv=>whnf
 refine qg_ [1,2,4,7] (σ:=Nat) (fun n=>[(8,.int .i64 n),(9,.own 2)]) (fun n=>[.box (qk_ p).cells,.box [.nil,.int .i64 0,.bool false,.bool false],.row 1 ((p.b++b.take n).map qd_)]) (fun n=>n≤xs_ p b) (fun n=>xs_ p b-n) 0 ?_
 conv=>whnf
 refine ⟨?_,Nat.zero_le _,fun n hn=>?_⟩
 ·rw [List.take_zero,List.append_nil]
  exact (by (refine qf_ [some 0,some 1,some 3] rfl rfl ?_ ?_<;>(repeat' first|exact True.intro|exact rfl|exact .inl rfl|exact .inr rfl|refine And.intro ?_ ?_|fail)))
 have hlen:((p.b++b.take n).map qd_).length=p.b.length+n:=by
  rw [List.length_map,List.length_append,List.length_take]
  omega
 have hend:¬ ((n:Int)<(b.length:Int)∧((p.b.length+n:Nat):Int)<(rm:Int))→n=xs_ p b:=fun h=>by omega
 have hout:n=xs_ p b→K (.tup [.agg [.sl qd_ (p.b++b.take n),.int .i64 p.room,.bool p.closed,.bool p.shut],.int .i64 (n:Int),.int .i64 0]):=fun e=>by
  subst e
  refine hK _ ?_
  rw [htP]
  rfl
 repeat' first|refine ⟨_,_,_,LeL.refl _,?_⟩|(refine fun (b:Bool) hb=>?_;cases b<;>first|exact absurd hb (by decide)|exact nfl hb|exact nfr hb|skip)|(refine fun (hl:_≤MAXL)=>?_)|refine And.intro (a:=I64 _) ?_ ?_|refine And.intro (a:=_≤140737488355328) ?_ ?_|refine ⟨_,rfl,?_,rfl,?_⟩|refine ⟨rfl,?_⟩|fail
 ·have h1:=of_decide_eq_false (by assumption:decide ((n:Int)<(b.length:Int))=false)
  have e:=hend (by omega)
  conv=>whnf
  exact hout e
 ·have h1:=of_decide_eq_false (by assumption:decide (((((p.b++b.take n).map qd_).length:Nat):Int)<(rm:Int))=false)
  rw [hlen] at h1
  have e:=hend (by omega)
  conv=>whnf
  exact hout e
 all_goals
  have h1:=of_decide_eq_true (by assumption:decide ((n:Int)<(b.length:Int))=true)
  have h2:=of_decide_eq_true (by assumption:decide (((((p.b++b.take n).map qd_).length:Nat):Int)<(rm:Int))=true)
  rw [hlen] at h2
  have hlt:n<b.length:=by omega
 ·exact hlt
 ·show (((p.b++b.take n).map qd_).length+1)*1≤_
  rw [hlen];omega
 ·unfold I64;omega
 conv=>whnf
 refine ⟨n+1,?_,by omega,by omega⟩
 (refine qa_ ?_;refine Sel4.mk rfl rfl ?_ ?_<;>(repeat' first|exact True.intro|exact rfl|exact .inl rfl|exact .inr rfl|refine And.intro ?_ ?_|fail))
 show Row.row 1 _=Row.row 1 _
 rw [List.take_succ_eq_append_getElem hlt,←List.append_assoc,List.map_append]
 rfl
end Gv
namespace Gv
variable [Glob] [Laid]
theorem qlv_:qb_ Tryz.prog 160=true:=by kernel_rfl
def qev_:Spec:=fun args K=>∃ (l:List Int) (c:Int),args=[.sl intV l,.int .i64 c]∧K (.bool (decide (c∈l)))
noncomputable def qiv_:List (Nat × Spec):=[]
noncomputable def qiu_:List (Nat × FnI):=[(212,{fn:=Tryz.f212,hooks:=[],draws:=[]})]
noncomputable def qew_:List (Nat × qn_):=[]
theorem qo3_:EnvOK ⟨Tryz.prog,tys,qiv_,qiu_,qew_,[]⟩:=qs_ qt_ tys0 .nil (.cons (by kernel_rfl) ⟨Tryz.func212,by kernel_rfl,by kernel_rfl⟩ .nil) .nil rfl
theorem qlw_:Pure Tryz.prog 160 qev_:=by
 refine qp_ qo3_ 6 (fi:={fn:=Tryz.f160,hooks:=[],draws:=[]}) ⟨Tryz.func160,by kernel_rfl,by kernel_rfl⟩ ?_
 rintro _ K ⟨l,c,rfl,hK⟩
 replace hK:∀ r,r=.bool (decide (c∈l))→K r:=fun r h=>h ▸ hK
 refine fun (hl:_≤MAXL)=>?_
 conv=>whnf
 refine qg_ [0,1,7] (σ:=Nat) (fun i=>[(8,.int .i64 i)]) (fun i=>[]) (fun i=>i≤l.length∧c ∉ l.take i) (fun i=>l.length-i) 0 ?_
 conv=>whnf
 refine ⟨(by (refine qa_ ?_;refine Sel4.mk rfl rfl ?_ ?_<;>(repeat' first|exact True.intro|exact rfl|exact .inl rfl|exact .inr rfl|refine And.intro ?_ ?_|fail))),⟨Nat.zero_le _,by simp⟩,fun i hi=>?_⟩
 obtain ⟨hi,hc⟩:=hi
 repeat' first|(refine fun (b:Bool) hb=>?_;cases b<;>first|exact absurd hb (by decide)|exact nfl hb|exact nfr hb|skip)|refine And.intro (a:=I64 _) ?_ ?_|refine ⟨_,rfl,?_,rfl,?_⟩|fail
 ·refine hK _ ?_
  have e:l.take i=l:=List.take_of_length_le (by grind)
  rw [e] at hc
  simp [hc]
 ·grind
 ·(first|omega|(unfold I64;omega)|(simp only [List.length_append,List.length_map,List.length_cons,List.length_nil,Nat.mul_one,Int.ofNat_eq_natCast] at *;omega)|(dsimp only at *;omega)|(unfold I64;dsimp only at *;omega)|(unfold I64;grind)|grind)
 ·have hi2:i<l.length:=by grind
  refine ⟨i+1,(by (refine qa_ ?_;refine Sel4.mk rfl rfl ?_ ?_<;>(repeat' first|exact True.intro|exact rfl|exact .inl rfl|exact .inr rfl|refine And.intro ?_ ?_|fail))),⟨by grind,?_⟩,by grind⟩
  rw [List.take_succ_eq_append_getElem hi2]
  simp only [List.mem_append,List.mem_singleton,not_or]
  refine ⟨hc,fun e=>?_⟩
  subst e
  simp at *
 ·have hi2:i<l.length:=by grind
  refine hK _ ?_
  have e:c=l[i]:=by grind
  have h1:decide (c∈l)=true:=by
   rw [e]
   simp
  have h2:decide ((0:Int)≤(i:Int))=true:=by simp
  rw [h1,h2]
end Gv
namespace Gv
variable [Glob] [Laid]
theorem qvi_:qb_ Tryz.prog 113=true:=by kernel_rfl
def qma_:Spec:=fun args K=>∃ (c:Cmd),args=[cmdV c]∧K (.bool (Gp.each c))
noncomputable def qpr_:List (Nat × Spec):=[(160,qev_)]
noncomputable def qpq_:List (Nat × FnI):=[]
noncomputable def qjd_:List (Nat × qn_):=[]
theorem qzv_:EnvOK ⟨Tryz.prog,tys,qpr_,qpq_,qjd_,[]⟩:=qs_ qt_ tys0 (.cons qlv_ qlw_ .nil) .nil .nil rfl
theorem qvj_:Pure Tryz.prog 113 qma_:=by
 refine qp_ qzv_ 6 (fi:={fn:=Tryz.f113,hooks:=[],draws:=[]}) ⟨Tryz.func113,by kernel_rfl,by kernel_rfl⟩ ?_
 rintro _ K ⟨c,rfl,hK⟩
 replace hK:∀ r,r=.bool (Gp.each c)→K r:=fun r h=>h ▸ hK
 skip
 refine ⟨Int,intV,[1,2,3,4,5],LeL.refl _,?_⟩
 refine ⟨[1,2,3,4,5],c.kind,rfl,?_⟩
 refine hK _ ?_
 unfold Gp.each
 congr 1
 simp only [List.mem_cons,List.not_mem_nil,or_false]
 grind
end Gv
namespace Gv
variable [Glob] [Laid] [Nums] [Errs]
theorem qz8_ {l:List V} {r:Nat} {x y:V} (h:x.cells.length=y.cells.length) (hc:∀ (j:Nat) v v',x.cells[j]?=some v→y.cells[j]?=some v'→v.Le v'):LeL (l.set r x) (l.set r y):=by
 refine ⟨by simp,fun i a b ha hb=>?_⟩
 by_cases e:r=i
 ·subst e
  have hr:r<l.length:=by have:=(List.getElem?_eq_some_iff.1 ha).1;simpa using this
  rw [List.getElem?_set_self hr] at ha hb
  cases ha
  cases hb
  exact ⟨h,hc⟩
 ·rw [List.getElem?_set_ne e] at ha hb
  rw [ha] at hb
  cases hb
  exact ⟨rfl,fun j v v' hv hv'=>by rw [hv] at hv';cases hv';exact V.Le.refl _⟩
theorem q8f_ (b:Bool):V.Le (.lit b) (.bool b):=fun m u h=>by cases h;exact .bool
theorem zc0_:V.Le .nil (.sl qd_ []):=fun m u h=>by cases h;exact .sl0 (Nat.zero_le _) fun _=>rfl
theorem qmc_ {a b c d a' b' c' d':V} (h1:V.Le a a') (h2:V.Le b b') (h3:V.Le c c') (h4:V.Le d d'):∀ (j:Nat) v v',(V.agg [a,b,c,d]).cells[j]?=some v→(V.agg [a',b',c',d']).cells[j]?=some v'→v.Le v':=fun j v v' hv hv'=>by
 match j,hv,hv' with
 | 0,hv,hv'=>cases hv;cases hv';exact h1
 | 1,hv,hv'=>cases hv;cases hv';exact h2
 | 2,hv,hv'=>cases hv;cases hv';exact h3
 | 3,hv,hv'=>cases hv;cases hv';exact h4
 | n+4,hv,_=>cases hv
theorem qz6_ {l:List PipeS} {r:Nat} {q:PipeS}:LeL ((l.map qk_).set r (.agg [.sl qd_ q.b,.int .i64 q.room,.lit true,.bool q.shut])) ((l.set r ⟨q.b,q.room,true,q.shut⟩).map qk_):=by
 rw [List.map_set]
 exact qz8_ rfl (qmc_ (a':=.sl qd_ q.b) (b':=.int .i64 q.room) (c':=.bool true) (d':=.bool q.shut) (V.Le.refl _) (V.Le.refl _) (q8f_ true) (V.Le.refl _))
theorem q5o_ {l:List PipeS} {r:Nat} {q:PipeS}:LeL ((l.map qk_).set r (.agg [.nil,.int .i64 q.room,.bool q.closed,.lit true])) ((l.set r (yy_ q)).map qk_):=by
 rw [List.map_set]
 exact qz8_ rfl (qmc_ (a':=.sl qd_ []) (b':=.int .i64 q.room) (c':=.bool q.closed) (d':=.bool true) zc0_ (V.Le.refl _) (V.Le.refl _) (q8f_ true))
theorem qyi_ (b:Bs) (c:UInt8):comp (b++[c])=if c=10 then b++[c] else comp b:=by
 unfold comp
 rw [List.reverse_append,List.reverse_singleton,List.singleton_append,List.dropWhile_cons]
 by_cases h:c=10
 ·subst h
  simp
 ·rw [if_pos (by simpa using h),if_neg h]
theorem qhd_ {p:Prop} [Decidable p] {G:Prop} (h1:decide p=true) (h2:decide p=false):G:=by rw [h1] at h2;cases h2
theorem zcs_ {k:Int} {G:Prop} (h1:decide (k=4)=true) (h2:decide (k=3)=true):G:=by
 have:=of_decide_eq_true h1
 have:=of_decide_eq_true h2
 omega
theorem qrc_:qb_ Tryz.prog 49=true:=by kernel_rfl
def qw9_:qn_:=fun args rows K=>zb4_ qra_ args rows K
noncomputable def qnp_:List (Nat × Spec):=[(112,qid_),(113,qma_),(89,y1_),(88,qjk_),(87,vl_)]
noncomputable def qno_:List (Nat × FnI):=[(109,{fn:=Tryz.f109,hooks:=[],draws:=[]}),(157,{fn:=Tryz.f157,hooks:=[],draws:=[]}),(110,{ fn:=Tryz.f110,spec:=some qze_ })]
noncomputable def qgx_:List (Nat × qn_):=[(108,qs2_)]
theorem qw8_:EnvOK ⟨Tryz.prog,tys,qnp_,qno_,qgx_,[(47,[true,true])]⟩:=qs_ qt_ tys0 (.cons qrp_ qrq_ (.cons qvi_ qvj_ (.cons y8_ y9_ (.cons qjl_ qjm_ (.cons v5_ v6_ .nil))))) (.cons (by kernel_rfl) ⟨Tryz.func109,by kernel_rfl,by kernel_rfl⟩ (.cons (by kernel_rfl) ⟨Tryz.func157,by kernel_rfl,by kernel_rfl⟩ (.told q48_ rfl qve_ .nil))) (.cons qqi_ .nil) (by kernel_rfl)
set_option maxHeartbeats 40000000 in
theorem qkf_:q1_ Tryz.prog 49 qw9_:=by
 refine xm_ qw8_ 6 qrc_ (fi:={fn:=Tryz.f49,hooks:=[100002,5,28,43,46,55,66,67],draws:=[(16,[0,1,3,7,0,0,32,96,224,0,0,0,0,6144,1535,17919,65535,131071]),(25,[0,1,3,7,0,0,0,96,240,511,1023,2047]),(32,[0,1,3,7,0,0,0,64,192,448,1008,2047,4095]),(37,[0,1,3,7,0,16,48,127]),(44,[0,0,2,6,14,0,32,96,224,510,0,2047]),(45,[0,1,3,7,0,16,48,112,255,511,1023]),(56,[0,0,2,6,0,31]),(57,[0,1,3,7,0,16,48,112,255,511]),(59,[0,0,2,6,14,30,0,0,192,511]),(60,[0,1,3,7,0,16,48,112,0,0,768,2047,4095]),(62,[0,0,2,6,14,30,0,64,0,0,768,1792,4032,8128,16383]),(63,[0,1,3,7,0,16,48,112,0,0,768,2047,4095])]}) ⟨Tryz.func49,by kernel_rfl,by kernel_rfl⟩ ?_
 rintro args rows K ⟨m,i,els,rfl,h,⟨hq,hp0,hp1,hsz,hsk⟩,rfl,hK⟩
 have hei:(els.set i (q6_ (pr m i)))[i]?=some (q6_ (pr m i)):=List.getElem?_set_self (by rw [h.nl];exact h.lt)
 have hel:(els.set i (q6_ (pr m i))).length=m.g.length:=by rw [List.length_set,h.nl]
 have hpe:=h.pe
 have hgf:=gf_of h.g
 have hmp:i<m.p.length:=by rw [h.np];exact h.lt
 have hnd:ndG m.g i=m.g[i]'(h.lt):=xb_ h.lt
 have hlt:=h.lt
 have hni:nI m.g i=m.g[i].ins.length:=by unfold nI;rw [hnd]
 have hend2:∀ (M:MachS) (c:Int) (a:Nat) (ex:Rows),qv_ m i=(M,c)→a≠4→(focQ M i els a 4++ex)[a]?=some (.row 1 ((pr M i).got.map blV))→(focQ M i els a 4++ex)[4]?=some (.row 1 ((pr M i).out.map blV))→K (.int .i64 c) (focQ M i els a 4++ex):=fun M c a ex e h1 h2 h3=>by
  rw [e] at hK
  exact hK a 4 ex h1 h2 h3
 have hend:∀ (M:MachS) (c:Int) (ex:Rows),qv_ m i=(M,c)→K (.int .i64 c) (focR M i els++ex):=fun M c ex e=>by
  rw [e] at hK
  exact hK 3 4 ([.row 1 ((pr M i).got.map blV),.row 1 ((pr M i).out.map blV)]++ex) (by decide) rfl rfl
 unfold focR
 conv=>whnf
 refine ⟨m.g,rfl,rfl,h.g,fun u hu=>?_⟩
 conv=>whnf
 refine za7_ (g:=m.g) (k:=i) h.lt [(1,.int .i64 i),(2,.ptr 5 0 0),(5,.fn 157 [.ptr 6 0 0]),(6,.map 8)] rfl (by kernel_rfl) (by kernel_rfl) rfl rfl ?_ rfl rfl rfl rfl rfl (by rw [hel];exact h.lt) (qcm_ rfl (qcm_ rfl (qcm_ rfl (qcm_ rfl (fun _ _ h=>by cases h))))) ?_ ?_
 ·intro d g1 g2
  have g3:d=34∨d=35∨d=36∨d=37∨d=38∨d=39∨d=40∨d=41∨d=42∨d=43∨d=44∨d=45∨d=46∨d=47:=by omega
  rcases g3 with rfl|rfl|rfl|rfl|rfl|rfl|rfl|rfl|rfl|rfl|rfl|rfl|rfl|rfl<;>rfl
 ·exact (by (refine qf_ [some 0,some 1,some 2,some 3,some 4,some 5,some 6,some 7,some 8,some 10,some 9] rfl rfl ?_ ?_<;>(repeat' (first|exact qw_ hpe rfl rfl|exact True.intro|exact rfl|exact Or.inl rfl|exact Or.inr rfl|refine And.intro ?_ ?_|fail))))
 conv=>whnf
 refine ql_ [1] (σ:=Unit) (fun _=>[(2,.ptr 5 0 0),(5,.fn 157 [.ptr 6 0 0]),(6,.map 8),(7,.ptr 9 0 0),(8,.ptr 10 0 0),(9,.ptr 11 0 0),(10,.fn 110 [.ptr 9 0 0,.ptr 10 0 0,.ptr 5 0 0,.ptr 11 0 0])]) (fun _=>[.box [.sl qh_ m.g,.sl qq_ m.f,.own 1,.own 2,.sl qd_ m.sunk],.row 4 (m.pipes.map qk_),.rowq 5 (els.set i (q6_ (pr m i))),.row 1 ((pr m i).got.map blV),.row 1 ((pr m i).out.map blV)]++yr_ 109 47 3 m i u) (fun _=>True) ?_
 unfold yr_
 rw [hnd]
 conv=>whnf
 refine ⟨?_,fun _ _=>?_⟩
 ·conv=>whnf
  exact ⟨(),(by (refine qf_ [some 0,some 1,some 2,some 3,some 4,some 5,some 6,some 7,some 8,some 9,some 10,some 11] rfl rfl ?_ ?_<;>(repeat' (first|exact qw_ hpe rfl rfl|exact True.intro|exact rfl|exact Or.inl rfl|exact Or.inr rfl|refine And.intro ?_ ?_|fail)))),trivial⟩
 conv=>whnf
 refine ⟨_,hei,?_⟩
 repeat' first|(refine fun (b:Bool) hb=>?_;cases b<;>first|exact absurd hb (by decide)|exact nfl hb|exact nfr hb|skip)|fail
 rotate_left
 ·have ho:(pr m i).over=true:=by assumption
  conv=>whnf
  exact hend m 7 _ (by unfold qv_;rw [if_pos ho])
 have ho:(pr m i).over=false:=by assumption
 conv=>whnf
 refine ⟨_,hei,?_⟩
 repeat' first|(refine fun (hl:_≤MAXL)=>?_)|fail
 conv=>whnf
 refine qg_ [1,2,5,6,7,8,9,10,56,57] (σ:=Nat × Bool) (fun s=>[(58,.int .i64 s.1),(11,.bool s.2)]) (fun _=>[.box [.sl qh_ m.g,.sl qq_ m.f,.own 1,.own 2,.sl qd_ m.sunk],.row 4 (m.pipes.map qk_),.rowq 5 (els.set i (q6_ (pr m i))),.row 1 ((pr m i).got.map blV),.row 1 ((pr m i).out.map blV)]++yr_ 109 47 3 m i u) (fun s=>s.1≤(pr m i).out.length∧(∀ j,j<s.1→canW m i j=false)∧(s.2=true↔∃ j,j<s.1∧outK m i j≠[])) (fun s=>(pr m i).out.length-s.1) (0,false) ?_
 unfold yr_
 rw [hnd]
 conv=>whnf
 refine ⟨(by (refine qf_ [some 0,some 1,some 2,some 3,some 4,some 5,some 6,some 7,some 8,some 9,some 10,some 11] rfl rfl ?_ ?_<;>(repeat' (first|exact qw_ hpe rfl rfl|exact True.intro|exact rfl|exact Or.inl rfl|exact Or.inr rfl|refine And.intro ?_ ?_|fail)))),⟨Nat.zero_le _,fun j hj=>by omega,⟨(fun h=>by cases h),(fun ⟨j,hj,_⟩=>by omega)⟩⟩,fun s hs=>?_⟩
 obtain ⟨k,w⟩:=s
 obtain ⟨hk,hno,hw⟩:=hs
 dsimp only at hk hno hw
 repeat' first|(refine fun (b:Bool) hb=>?_;cases b<;>first|exact absurd hb (by decide)|exact nfl hb|exact nfr hb|skip)|refine ⟨rfl,?_⟩|fail
 rotate_left
 ·have hwt:w=true:=by assumption
  have hkl:k=(pr m i).out.length:=by
   have h:=of_decide_eq_false (by assumption:decide ((k:Int)<(((pr m i).out.map blV).length:Int))=false)
   rw [List.length_map] at h
   omega
  subst hkl
  obtain ⟨j,hj,hne⟩:=hw.1 hwt
  have hany:(pr m i).out.any (fun b=>decide (b≠[]))=true:=by
   rw [List.any_eq_true]
   refine ⟨outK m i j,?_,decide_eq_true hne⟩
   unfold outK
   rw [List.getD_eq_getElem?_getD,List.getElem?_eq_getElem hj]
   exact List.getElem_mem hj
  conv=>whnf
  exact hend m 8 _ (qh7_ ho hany hno)
 ·have hk2:k<(pr m i).out.length := by
   have h:=of_decide_eq_true (by assumption:decide ((k:Int)<(((pr m i).out.map blV).length:Int))=true)
   rw [List.length_map] at h
   omega
  have hgk:((pr m i).out.map blV)[k]?=some (blV (outK m i k)):=by
   unfold outK
   rw [List.getElem?_map,List.getElem?_eq_getElem hk2,List.getD_eq_getElem?_getD,List.getElem?_eq_getElem hk2];rfl
  have hI64:I64 ((k:Int)+1):=by
   have hM:((pr m i).out.map blV).length≤MAXL:=by assumption
   rw [List.length_map] at hM
   unfold I64;unfold MAXL at hM;omega
  refine ⟨k,rfl,by rw [List.length_map];exact hk2,?_⟩
  conv=>whnf
  refine ⟨_,hgk,?_⟩
  repeat' first|(refine fun (b:Bool) hb=>?_;cases b<;>first|exact absurd hb (by decide)|exact nfl hb|exact nfr hb|skip)|(refine fun (hl:_≤MAXL)=>?_)|refine And.intro (a:=I64 _) ?_ ?_|fail
  rotate_left
  ·exact hI64
  ·have he:outK m i k=[] := by
    have h:=of_decide_eq_true (by assumption:decide (((outK m i k).length:Int)=0)=true)
    exact List.length_eq_zero_iff.1 (by omega)
   have hcw:canW m i k=false:=by unfold canW;rw [he];rfl
   conv=>whnf
   refine ⟨(k+1,w),(by (refine qf_ [some 0,some 1,some 2,some 3,some 4,some 5,some 6,some 7,some 8,some 9,some 10,some 11] rfl rfl ?_ ?_<;>(repeat' (first|exact qw_ hpe rfl rfl|exact True.intro|exact rfl|exact Or.inl rfl|exact Or.inr rfl|refine And.intro ?_ ?_|fail)))),⟨hk2,fun j hj=>?_,⟨fun hwt=>?_,fun ⟨j,hj,hne⟩=>?_⟩⟩,by show (pr m i).out.length-(k+1)<(pr m i).out.length-k;omega⟩
   ·rcases Nat.lt_or_ge j k with h2|h2
    ·exact hno j h2
    ·obtain rfl:j=k:=by have:j<k+1:=hj;omega
     exact hcw
   ·obtain ⟨j,hj,hne⟩:=hw.1 hwt
    exact ⟨j,Nat.lt_succ_of_lt hj,hne⟩
   ·refine hw.2 ⟨j,?_,hne⟩
    rcases Nat.lt_or_ge j k with h2|h2
    ·exact h2
    ·obtain rfl:j=k:=by have:j<k+1:=hj;omega
     exact absurd he hne
  have hne:outK m i k≠[]:=by
   have h:=of_decide_eq_false (by assumption:decide (((outK m i k).length:Int)=0)=false)
   intro e
   rw [e] at h
   exact h rfl
  have hrl:=qs9_ h hk2
  have hrq:rdr m i k<m.pipes.length:=by rw [h.nq];exact hrl
  have hgq:(m.pipes.map qk_)[rdr m i k]?=some (qk_ (qu m (rdr m i k))):=by
   unfold qu
   rw [List.getElem?_map,List.getElem?_eq_getElem hrq,List.getD_eq_getElem?_getD,List.getElem?_eq_getElem hrq]
   rfl
  have hqc:qi_ (qu m (rdr m i k))=0:=by
   refine hq _ ?_
   unfold qu
   rw [List.getD_eq_getElem?_getD,List.getElem?_eq_getElem hrq]
   exact List.getElem_mem hrq
  have hlk:mget 0 u [(i:Int),(k:Int)]=(rdr m i k:Int):=by
   have:=hu (rdr m i k) hrl hrl
   have e:(qr_ m.g)[rdr m i k]=⟨(i:Int),(k:Int)⟩:=List.getElem_idxOf hrl
   rw [e] at this
   exact this
  have hob:(outK m i k).length≤400000000:=by
   refine h.big _ (List.mem_append_right _ ?_)
   unfold outK
   rw [List.getD_eq_getElem?_getD,List.getElem?_eq_getElem hk2]
   exact List.getElem_mem hk2
  conv=>whnf
  refine ⟨0,rfl,?_⟩
  conv=>whnf
  repeat' first|refine ⟨rfl,?_⟩|fail
  refine ⟨rdr m i k,hlk,by rw [List.length_map];exact hrq,?_⟩
  conv=>whnf
  refine ⟨_,hgq,?_⟩
  skip
  refine ⟨qu m (rdr m i k),outK m i k,rfl,⟨hqc,hob⟩,?_⟩
  have hcan:canW m i k=true↔((wrtP (qu m (rdr m i k)) (outK m i k)).2.2=0∧0<(wrtP (qu m (rdr m i k)) (outK m i k)).2.1):=by
   unfold canW wrtP
   cases hcl:(qu m (rdr m i k)).closed<;>simp [hne,hqc]
  have hfail:canW m i k=false→(∀ j,j<k+1→canW m i j=false)∧(true=true↔∃ j,j<k+1∧outK m i j≠[]):=fun hcw=>by
   refine ⟨fun j hj=>?_,⟨fun _=>⟨k,by omega,hne⟩,fun _=>rfl⟩⟩
   rcases Nat.lt_or_ge j k with h2|h2
   ·exact hno j h2
   ·obtain rfl:j=k:=by omega
    exact hcw
  repeat' first|exact True.intro|(refine fun (b:Bool) hb=>?_;cases b<;>first|exact absurd hb (by decide)|exact nfl hb|exact nfr hb|skip)|refine And.intro (a:=I64 _) ?_ ?_|refine ⟨_,⟨rfl,rfl⟩,?_⟩|refine And.intro (a:=qj_ _ _ _ _ _ _ _ _) ?_ ?_|fail
  ·exact hI64
  ·have he:=of_decide_eq_false (by assumption:decide ((wrtP (qu m (rdr m i k)) (outK m i k)).2.2=0)=false)
   have hcw:canW m i k=false:=by
    cases hc:canW m i k with
    | false=>rfl
    | true=>exact absurd (hcan.1 hc).1 he
   conv=>whnf
   exact ⟨(k+1,true),(by (refine qf_ [some 0,some 1,some 2,some 3,some 4,some 5,some 6,some 7,some 8,some 9,some 10,some 11] rfl rfl ?_ ?_<;>(repeat' (first|exact qw_ hpe rfl rfl|exact True.intro|exact rfl|exact Or.inl rfl|exact Or.inr rfl|refine And.intro ?_ ?_|fail)))),⟨hk2,hfail hcw⟩,by show (pr m i).out.length-(k+1)<(pr m i).out.length-k;omega⟩
  ·exact hI64
  ·have he:=of_decide_eq_false (by assumption:decide (0<((wrtP (qu m (rdr m i k)) (outK m i k)).2.1:Int))=false)
   have hcw:canW m i k=false:=by
    cases hc:canW m i k with
    | false=>rfl
    | true=>have:=(hcan.1 hc).2;omega
   conv=>whnf
   exact ⟨(k+1,true),(by (refine qf_ [some 0,some 1,some 2,some 3,some 4,some 5,some 6,some 7,some 8,some 9,some 10,some 11] rfl rfl ?_ ?_<;>(repeat' (first|exact qw_ hpe rfl rfl|exact True.intro|exact rfl|exact Or.inl rfl|exact Or.inr rfl|refine And.intro ?_ ?_|fail)))),⟨hk2,hfail hcw⟩,by show (pr m i).out.length-(k+1)<(pr m i).out.length-k;omega⟩
  have he1:=of_decide_eq_true (by assumption:decide ((wrtP (qu m (rdr m i k)) (outK m i k)).2.2=0)=true)
  have he2:=of_decide_eq_true (by assumption:decide (0<((wrtP (qu m (rdr m i k)) (outK m i k)).2.1:Int))=true)
  have hcw:canW m i k=true:=hcan.2 ⟨he1,by omega⟩
  have hst:=qh8_ ho hk2 hcw hno
  have hwp:wrtP (qu m (rdr m i k)) (outK m i k)=(wo_ (qu m (rdr m i k)) (outK m i k),xs_ (qu m (rdr m i k)) (outK m i k),0):=by
   unfold wrtP at he1 ⊢
   cases hcl:(qu m (rdr m i k)).closed with
   | true=>rw [hcl,if_pos rfl] at he1;exact absurd he1 (by decide)
   | false=>rw [if_neg (by decide)]
  have htl:xs_ (qu m (rdr m i k)) (outK m i k)≤(outK m i k).length:=by
   unfold xs_
   split
   ·omega
   ·split<;>omega
  conv=>whnf
  apply Exists.intro
  apply And.intro
  ·conv=>whnf
   refine ⟨_,hei,?_⟩
   repeat' first|refine ⟨rfl,?_⟩|fail
   exact rfl
  conv=>whnf
  refine ⟨trivial,?_⟩
  conv=>whnf
  repeat' first|exact True.intro|refine ⟨_,⟨rfl,rfl⟩,?_⟩|refine And.intro (a:=qj_ _ _ _ _ _ _ _ _) ?_ ?_|fail
  conv=>whnf
  refine ⟨.sl qd_ ((outK m i k).drop (wrtP (qu m (rdr m i k)) (outK m i k)).2.1),⟨fun _=>rfl,(wrtP (qu m (rdr m i k)) (outK m i k)).2.1,rfl,by rw [hwp];exact htl,rfl,rfl⟩,?_⟩
  conv=>whnf
  apply Exists.intro
  apply And.intro
  ·refine ⟨rfl,rdr m i k,hlk,by rw [List.length_map];exact hrq,?_⟩
   exact ⟨rfl,rfl⟩
  conv=>whnf
  refine ⟨trivial,?_⟩
  conv=>whnf
  apply Exists.intro
  apply Exists.intro
  apply And.intro
  ·conv=>whnf
   refine ⟨by rw [List.length_map];exact hrq,?_⟩
   exact ⟨rfl,rfl⟩
  conv=>whnf
  repeat' first|exact True.intro|refine And.intro (a:=qx_ _ _ _ _ _ _) ?_ ?_|fail
  conv=>whnf
  apply Exists.intro
  apply And.intro
  ·refine ⟨rfl,k,rfl,by rw [List.length_map];exact hk2,?_⟩
   exact ⟨rfl,rfl⟩
  conv=>whnf
  refine ⟨trivial,?_⟩
  conv=>whnf
  apply Exists.intro
  apply Exists.intro
  apply And.intro
  ·conv=>whnf
   refine ⟨by rw [List.length_map];exact hk2,?_⟩
   exact ⟨rfl,rfl⟩
  conv=>whnf
  repeat' first|exact True.intro|refine And.intro (a:=qx_ _ _ _ _ _ _) ?_ ?_|fail
  conv=>whnf
  have hfin:=hend (doW m i k) 0 ([.box [.ptr 0 0 0],.box [.own 7],.row 1 (frsN m.g m.g.length),.mp 47 3 .pair intV u,.box [.ptr 2 i 0],.box (qh_ m.g[i]).cells,.box [.fn 109 []],.box (qk_ (wo_ (qu m (rdr m i k)) (outK m i k))).cells]) hst
  have hf:focR (doW m i k) i els=[.box [.sl qh_ m.g,.sl qq_ m.f,.own 1,.own 2,.sl qd_ m.sunk],.row 4 ((m.pipes.map qk_).set (rdr m i k) (qk_ (wo_ (qu m (rdr m i k)) (outK m i k)))),.rowq 5 (els.set i (q6_ (pr m i))),.row 1 ((pr m i).got.map blV),.row 1 (((pr m i).out.map blV).set k (blV ((outK m i k).drop (xs_ (qu m (rdr m i k)) (outK m i k)))))]:=by
   rw [←List.map_set,←List.map_set]
   exact xj_ hmp
  rw [hf,←show (wrtP (qu m (rdr m i k)) (outK m i k)).1=wo_ (qu m (rdr m i k)) (outK m i k) from by rw [hwp],←show (wrtP (qu m (rdr m i k)) (outK m i k)).2.1=xs_ (qu m (rdr m i k)) (outK m i k) from by rw [hwp]] at hfin
  exact hfin
 have hwf:w=false:=by assumption
 have hkl:k=(pr m i).out.length:=by
  have h:=of_decide_eq_false (by assumption:decide ((k:Int)<(((pr m i).out.map blV).length:Int))=false)
  rw [List.length_map] at h
  omega
 subst hkl
 have hany:¬ (pr m i).out.any (fun b=>decide (b≠[]))=true:=fun e=>by
  rw [List.any_eq_true] at e
  obtain ⟨b,hb,hd⟩:=e
  obtain ⟨j,hj,rfl⟩:=List.getElem_of_mem hb
  have h2:=hw.2 ⟨j,hj,?_⟩
  ·rw [hwf] at h2;cases h2
  ·unfold outK
   rw [List.getD_eq_getElem?_getD,List.getElem?_eq_getElem hj]
   exact of_decide_eq_true hd
 conv=>whnf
 refine ⟨_,hei,?_⟩
 repeat' first|exact True.intro|(refine fun (b:Bool) hb=>?_;cases b<;>first|exact absurd hb (by decide)|exact nfl hb|exact nfr hb|skip)|(refine fun (hl:_≤MAXL)=>?_)|refine ⟨_,⟨rfl,rfl⟩,?_⟩|refine And.intro (a:=qj_ _ _ _ _ _ _ _ _) ?_ ?_|fail
 rotate_left
 ·have h0:m.g[i].ins.length=0 := by
   have h:=of_decide_eq_true (by assumption:decide ((m.g[i].ins.length:Int)=0)=true)
   omega
  have hr:(pr m i).read=false:=by assumption
  have hst:qv_ m i=(z5_ m i,0):=by
   unfold qv_
   rw [if_neg (by rw [ho];decide),if_neg hany,if_neg (by rw [hr];decide)]
   unfold wx_
   rw [if_pos (by rw [hni];exact h0)]
  conv=>whnf
  refine ⟨m,i,els,u,rfl,h,by omega,by unfold yr_;rw [hnd];rfl,fun a ex ha h1 h2=>?_⟩
  conv=>whnf
  exact hend2 _ _ a ex hst ha h1 h2
 ·have hr:(pr m i).read=true:=by assumption
  conv=>whnf
  refine ⟨_,hei,?_⟩
  repeat' first|(refine fun (hl:_≤MAXL)=>?_)|fail
  conv=>whnf
  refine qg_ [1,2,6,7,118] (σ:=Nat) (fun k=>[(119,.int .i64 k)]) (fun k=>[.box [.sl qh_ m.g,.sl qq_ m.f,.own 1,.own 2,.sl qd_ m.sunk],.row 4 ((qy_ m i k).map qk_),.rowq 5 (els.set i (q6_ (pr m i))),.row 1 ((pr m i).got.map blV),.row 1 ((pr m i).out.map blV)]++[.box [.ptr 0 0 0],.box [.own 7],.row 1 (frsN m.g m.g.length),.mp 47 3 .pair intV u,.box [.ptr 2 i 0],.box (qh_ m.g[i]).cells,.box [.fn 109 []]]) (fun k=>k≤(pr m i).out.length∧∀ q∈qy_ m i k,qi_ q=0) (fun k=>(pr m i).out.length-k) 0 ?_
  conv=>whnf
  refine ⟨(by (refine qf_ [some 0,some 1,some 2,some 3,some 4,some 5,some 6,some 7,some 8,some 9,some 10,some 11] rfl rfl ?_ ?_<;>(repeat' (first|exact qw_ hpe rfl rfl|exact True.intro|exact rfl|exact Or.inl rfl|exact Or.inr rfl|refine And.intro ?_ ?_|fail)))),⟨Nat.zero_le _,hq⟩,fun k hk=>?_⟩
  obtain ⟨hk,hqk⟩:=hk
  repeat' first|exact True.intro|(refine fun (b:Bool) hb=>?_;cases b<;>first|exact absurd hb (by decide)|exact nfl hb|exact nfr hb|skip)|refine ⟨_,⟨rfl,rfl⟩,?_⟩|refine And.intro (a:=qj_ _ _ _ _ _ _ _ _) ?_ ?_|fail
  ·have hkl:k=(pr m i).out.length := by
    have h:=of_decide_eq_false (by assumption:decide ((k:Int)<(((pr m i).out.map blV).length:Int))=false)
    rw [List.length_map] at h
    omega
   subst hkl
   have hst:qv_ m i=(wp_ m i,0):=by
    unfold qv_
    rw [if_neg (by rw [ho];decide),if_neg hany,if_pos hr]
   have hf:focR (wp_ m i) i els=[.box [.sl qh_ m.g,.sl qq_ m.f,.own 1,.own 2,.sl qd_ m.sunk],.row 4 ((qy_ m i (pr m i).out.length).map qk_),.rowq 5 (els.set i (q6_ ⟨(pr m i).got,(pr m i).pos,(pr m i).out,(pr m i).read,true⟩)),.row 1 ((pr m i).got.map blV),.row 1 ((pr m i).out.map blV)]:=xj_ hmp
   conv=>whnf
   refine ql_ [] (σ:=Unit) (fun _=>[]) (fun _=>[.box [.sl qh_ m.g,.sl qq_ m.f,.own 1,.own 2,.sl qd_ m.sunk],.row 4 ((qy_ m i (pr m i).out.length).map qk_),.rowq 5 (els.set i (q6_ ⟨(pr m i).got,(pr m i).pos,(pr m i).out,(pr m i).read,true⟩)),.row 1 ((pr m i).got.map blV),.row 1 ((pr m i).out.map blV)]) (fun _=>True) ?_
   conv=>whnf
   refine ⟨?_,fun _ _=>?_⟩
   ·conv=>whnf
    refine ⟨_,hei,?_⟩
    conv=>whnf
    rw [List.set_set]
    refine ⟨(),?_,trivial⟩
    refine qf_ [some 0,some 1,some 2,some 3,some 4] rfl rfl ?_ ?_<;>(repeat' (first|exact qaw_ hpe ⟨rfl,rfl,rfl,rfl,Or.inr rfl,trivial⟩|exact True.intro|exact rfl|exact Or.inl rfl|exact Or.inr rfl|refine And.intro ?_ ?_|fail))
    all_goals done
   conv=>whnf
   have hfin:=hend (wp_ m i) 0 [] hst
   rw [hf] at hfin
   exact hfin
  have hk2:k<(pr m i).out.length:=by
   have h:=of_decide_eq_true (by assumption:decide ((k:Int)<(((pr m i).out.map blV).length:Int))=true)
   rw [List.length_map] at h
   omega
  have hrl:=qs9_ h hk2
  have hlen:=v9_ m i k
  have hrq:rdr m i k<(qy_ m i k).length:=by rw [hlen,h.nq];exact hrl
  obtain ⟨q,hqe⟩:∃ q,(qy_ m i k).getD (rdr m i k) zP=q:=⟨_,rfl⟩
  have hqm:q∈qy_ m i k:=by
   rw [←hqe,List.getD_eq_getElem?_getD,List.getElem?_eq_getElem hrq]
   exact List.getElem_mem hrq
  have hgq:((qy_ m i k).map qk_)[rdr m i k]?=some (qk_ q):=by
   rw [List.getElem?_map,List.getElem?_eq_getElem hrq,←hqe,List.getD_eq_getElem?_getD,List.getElem?_eq_getElem hrq]
   rfl
  have hlk:mget 0 u [(i:Int),(k:Int)]=(rdr m i k:Int):=by
   have:=hu (rdr m i k) hrl hrl
   have e:(qr_ m.g)[rdr m i k]=⟨(i:Int),(k:Int)⟩:=List.getElem_idxOf hrl
   rw [e] at this
   exact this
  have hst:qy_ m i (k+1)=(qy_ m i k).set (rdr m i k) ⟨q.b,q.room,true,q.shut⟩:=by
   show (qy_ m i k).set (rdr m i k) (vm_ ((qy_ m i k).getD (rdr m i k) zP))=_
   rw [hqe]
   unfold vm_
   rw [if_pos (hqk q hqm)]
  conv=>whnf
  refine ⟨_,⟨0,rfl,rfl,rfl⟩,?_⟩
  conv=>whnf
  repeat' first|exact True.intro|refine And.intro (a:=qj_ _ _ _ _ _ _ _ _) ?_ ?_|fail
  conv=>whnf
  apply Exists.intro
  apply And.intro
  ·refine ⟨rfl,rdr m i k,hlk,by rw [List.length_map];exact hrq,?_⟩
   exact ⟨rfl,rfl⟩
  conv=>whnf
  refine ⟨trivial,?_⟩
  conv=>whnf
  repeat' first|refine ⟨_,⟨rfl,rfl⟩,?_⟩|fail
  apply Exists.intro
  apply Exists.intro
  apply And.intro
  ·conv=>whnf
   refine ⟨_,hgq,?_⟩
   exact ⟨rfl,rfl⟩
  conv=>whnf
  repeat' first|exact True.intro|refine And.intro (a:=I64 _) ?_ ?_|refine And.intro (a:=qx_ _ _ _ _ _ _) ?_ ?_|fail
  conv=>whnf
  skip
  ·have hM:((pr m i).out.map blV).length≤MAXL:=by assumption
   rw [List.length_map] at hM
   unfold MAXL at hM;(try unfold I64);omega
  conv=>whnf
  refine ⟨k+1,?_,⟨hk2,fun x hx=>?_⟩,by omega⟩
  ·show Wk _ _ _ _ ([.box [.sl qh_ m.g,.sl qq_ m.f,.own 1,.own 2,.sl qd_ m.sunk],.row 4 ((qy_ m i (k+1)).map qk_),.rowq 5 (els.set i (q6_ (pr m i))),.row 1 ((pr m i).got.map blV),.row 1 ((pr m i).out.map blV)]++[.box [.ptr 0 0 0],.box [.own 7],.row 1 (frsN m.g m.g.length),.mp 47 3 .pair intV u,.box [.ptr 2 i 0],.box (qh_ m.g[i]).cells,.box [.fn 109 []]])
   rw [hst]
   exact (wk_le 1 rfl qz6_).trans (by (refine qf_ [some 0,some 1,some 2,some 3,some 4,some 5,some 6,some 7,some 8,some 9,some 10,some 11] rfl rfl ?_ ?_<;>(repeat' (first|exact qw_ hpe rfl rfl|exact True.intro|exact rfl|exact Or.inl rfl|exact Or.inr rfl|refine And.intro ?_ ?_|fail))))
  ·rw [hst] at hx
   rcases List.mem_or_eq_of_mem_set hx with hx|rfl
   ·exact hqk x hx
   ·have:=hqk q hqm
    unfold qi_ at this ⊢
    exact this
 have hr:(pr m i).read=false:=by assumption
 have h0:¬ m.g[i].ins.length=0:=by
  have h:=of_decide_eq_false (by assumption:decide ((m.g[i].ins.length:Int)=0)=false)
  omega
 have hpL:(pr m i).pos<(m.g[i].ins.length:Int):=by
  rcases hp1 with h1|h1|h1
  ·rw [hr] at h1;cases h1
  ·rw [hni] at h1;exact absurd h1 h0
  ·rw [hni] at h1;exact h1
 obtain ⟨ps,hps⟩:∃ ps:Nat,(pr m i).pos=ps:=⟨(pr m i).pos.toNat,by omega⟩
 have hpsl:ps<m.g[i].ins.length:=by omega
 have hst:∀ o,wx_ m i=o→qv_ m i=match o with|some m'=>(m',0)|none=>(m,8):=fun o ho2=>by
  unfold qv_
  rw [if_neg (by rw [ho];decide),if_neg hany,if_neg (by rw [hr];decide),ho2]
  cases o<;>rfl
 have hpos:(pr m i).pos.toNat=ps:=by rw [hps];rfl
 have hxl:insB m.g i+ps<m.pipes.length:=by
  have h1:=x4_ hlt
  have h2:=y7_ (N:=m.g) (i:=i+1) (j:=m.g.length) (by omega) (Nat.le_refl _)
  rw [yi_] at h2
  rw [h.nq]
  omega
 obtain ⟨q,hqe⟩:∃ q,qu m (insB m.g i+ps)=q:=⟨_,rfl⟩
 have hgq:(m.pipes.map qk_)[insB m.g i+ps]?=some (qk_ q):=by
  rw [←hqe]
  unfold qu
  rw [List.getElem?_map,List.getElem?_eq_getElem hxl,List.getD_eq_getElem?_getD,List.getElem?_eq_getElem hxl]
  rfl
 have hrd:wx_ m i=if q.b≠[] then some (xk_ (setQ m (insB m.g i+ps) ⟨q.b.drop 8,q.room,q.closed,q.shut⟩) i (q.b.take 8)) else if q.closed=false then none else if (pr m i).pos+1=(nI m.g i:Int) then some (z5_ (setP m i (z8_ (pr m i))) i) else some (setP m i (z8_ (pr m i))):=by
  unfold wx_
  dsimp only
  rw [if_neg (by rw [hni];exact h0),hpos,hqe]
 conv=>whnf
 apply Exists.intro
 apply And.intro
 ·conv=>whnf
  refine ⟨_,hei,?_⟩
  repeat' first|refine ⟨rfl,?_⟩|fail
  exact rfl
 conv=>whnf
 refine ⟨trivial,?_⟩
 conv=>whnf
 apply Exists.intro
 apply Exists.intro
 apply And.intro
 ·conv=>whnf
  refine ⟨rfl,i,rfl,by rw [qak_];exact hlt,?_⟩
  conv=>whnf
  refine ⟨_,qi7_ hlt,?_⟩
  rw [if_pos hlt]
  repeat' first|refine And.intro (a:=I64 _) ?_ ?_|refine ⟨rfl,?_⟩|fail
  ·have:=z0_ h.g
   have h1:=y7_ (N:=m.g) (i:=i) (j:=m.g.length) (by omega) (Nat.le_refl _)
   rw [yi_] at h1
   have hi5:=vs_ (hgf.node i hlt)
   rw [hnd] at hi5
   unfold I64;omega
  ·rfl
 conv=>whnf
 repeat' first|exact True.intro|refine And.intro (a:=qx_ _ _ _ _ _ _) ?_ ?_|refine ⟨⟨rfl,rfl⟩,?_⟩|fail
 apply Exists.intro
 apply And.intro
 ·refine ⟨rfl,insB m.g i+ps,by rw [hps,Int.natCast_add],by rw [List.length_map];exact hxl,?_⟩
  exact ⟨rfl,rfl⟩
 conv=>whnf
 refine ⟨trivial,?_⟩
 conv=>whnf
 repeat' first|refine ⟨_,⟨rfl,rfl⟩,?_⟩|fail
 conv=>whnf
 refine ⟨_,hgq,?_⟩
 repeat' first|(refine fun (b:Bool) hb=>?_;cases b<;>first|exact absurd hb (by decide)|exact nfl hb|exact nfr hb|skip)|(refine fun (hl:_≤MAXL)=>?_)|fail
 rotate_left
 ·have hb0:q.b=[] := by
   have h:=of_decide_eq_true (by assumption:decide ((q.b.length:Int)=0)=true)
   exact List.length_eq_zero_iff.1 (by omega)
  rw [if_neg (fun h=>h hb0)] at hrd
  have hpm:pr (setP m i (z8_ (pr m i))) i=z8_ (pr m i):=by rw [xe_ hmp,if_pos rfl]
  have e1:focR (setP m i (z8_ (pr m i))) i els=[.box [.sl qh_ m.g,.sl qq_ m.f,.own 1,.own 2,.sl qd_ m.sunk],.row 4 (m.pipes.map qk_),.rowq 5 (els.set i (q6_ (z8_ (pr m i)))),.row 1 ((pr m i).got.map blV),.row 1 ((pr m i).out.map blV)]:=xj_ hmp
  have hset:∀ x y:V,(els.set i x).set i y=els.set i y:=fun x y=>by rw [List.set_set]
  conv=>whnf
  refine ⟨_,hgq,?_⟩
  repeat' first|(refine fun (b:Bool) hb=>?_;cases b<;>first|exact absurd hb (by decide)|exact nfl hb|exact nfr hb|skip)|fail
  ·have hcl:q.closed=true:=by simpa using ‹(!q.closed)=false›
   rw [if_neg (by rw [hcl];decide)] at hrd
   conv=>whnf
   refine ⟨_,hei,?_⟩
   repeat' first|refine And.intro (a:=I64 _) ?_ ?_|fail
   ·have hi5:=vs_ (hgf.node i hlt)
    rw [hnd] at hi5
    unfold I64;omega
   conv=>whnf
   refine ⟨_,hei,?_⟩
   conv=>whnf
   rw [hset]
   repeat' first|exact True.intro|refine ⟨_,⟨rfl,rfl⟩,?_⟩|refine And.intro (a:=qj_ _ _ _ _ _ _ _ _) ?_ ?_|fail
   conv=>whnf
   apply Exists.intro
   apply And.intro
   ·conv=>whnf
    refine ⟨_,List.getElem?_set_self (by rw [h.nl];exact hlt),?_⟩
    repeat' first|refine ⟨rfl,?_⟩|fail
    exact rfl
   conv=>whnf
   refine ⟨trivial,?_⟩
   conv=>whnf
   repeat' first|exact True.intro|(refine fun (b:Bool) hb=>?_;cases b<;>first|exact absurd hb (by decide)|exact nfl hb|exact nfr hb|skip)|refine ⟨_,⟨rfl,rfl⟩,?_⟩|refine ⟨_,(fun _=>⟨rfl,rfl⟩),?_⟩|refine And.intro (a:=qj_ _ _ _ _ _ _ _ _) ?_ ?_|fail
   ·have hne:=of_decide_eq_false (by assumption:decide ((pr m i).pos+1=(m.g[i].ins.length:Int))=false)
    rw [if_neg (by rw [hni];exact hne)] at hrd
    conv=>whnf
    have hfin:=hend (setP m i (z8_ (pr m i))) 0 ([.box [.ptr 0 0 0],.box [.own 7],.row 1 (frsN m.g m.g.length),.mp 47 3 .pair intV u,.box [.ptr 2 i 0],.box (qh_ m.g[i]).cells,.box [.fn 109 []]]) (hst _ hrd)
    rw [e1] at hfin
    exact hfin
   ·have hne:=of_decide_eq_true (by assumption:decide ((pr m i).pos+1=(m.g[i].ins.length:Int))=true)
    rw [if_pos (by rw [hni];exact hne)] at hrd
    have hF':FocOK (setP m i (z8_ (pr m i))) i els:=⟨h.g,h.f,by show (m.p.set i _).length=_;rw [List.length_set];exact h.np,h.nq,h.lt,h.nl,by rw [hpm];exact h.got,by rw [hpm];exact h.out,h.room,h.pe,by rw [hpm];exact h.big⟩
    conv=>whnf
    refine ⟨setP m i (z8_ (pr m i)),i,els,u,rfl,hF',by rw [hpm];show (pr m i).got.flatten.length≤_;omega,?_,fun a ex ha h1 h2=>?_⟩
    ·rw [e1]
     show _=_++yr_ 109 47 3 m i u
     unfold yr_
     rw [hnd]
     rfl
    conv=>whnf
    exact hend2 _ _ a ex (hst _ hrd) ha h1 h2
  ·have hcl:q.closed=false:=by simpa using ‹(!q.closed)=true›
   rw [if_pos hcl] at hrd
   conv=>whnf
   exact hend m 8 _ (hst _ hrd)
 have hbn:q.b≠[]:=by
  have h:=of_decide_eq_false (by assumption:decide ((q.b.length:Int)=0)=false)
  intro e
  rw [e] at h
  exact h rfl
 rw [if_pos hbn] at hrd
 conv=>whnf
 refine ⟨_,hgq,?_⟩
 conv=>whnf
 refine ql_ [2,7,8,9,10,19] (σ:=Unit) (fun _=>[(20,.sl qd_ (q.b.take 8))]) (fun _=>[.box [.sl qh_ m.g,.sl qq_ m.f,.own 1,.own 2,.sl qd_ m.sunk],.row 4 (m.pipes.map qk_),.rowq 5 (els.set i (q6_ (pr m i))),.row 1 ((pr m i).got.map blV),.row 1 ((pr m i).out.map blV)]++[.box [.ptr 0 0 0],.box [.own 7],.row 1 (frsN m.g m.g.length),.mp 47 3 .pair intV u,.box [.ptr 2 i 0],.box (qh_ m.g[i]).cells,.box [.fn 109 []]]) (fun _=>True) ?_
 conv=>whnf
 refine ⟨?_,fun _ _=>?_⟩
 ·repeat' first|(refine fun (b:Bool) hb=>?_;cases b<;>first|exact absurd hb (by decide)|exact nfl hb|exact nfr hb|skip)|(refine fun (hl:_≤MAXL)=>?_)|refine ⟨(fun _=>rfl),?_⟩|fail
  ·have h8:=of_decide_eq_false (by assumption:decide (8<(q.b.length:Int))=false)
   have e:q.b.take 8=q.b:=List.take_of_length_le (by omega)
   conv=>whnf
   refine ⟨(),?_,trivial⟩
   rw [e]
   exact (by (refine qf_ [some 0,some 1,some 2,some 3,some 4,some 5,some 6,some 7,some 8,some 9,some 10,some 11] rfl rfl ?_ ?_<;>(repeat' (first|exact qw_ hpe rfl rfl|exact True.intro|exact rfl|exact Or.inl rfl|exact Or.inr rfl|refine And.intro ?_ ?_|fail))))
  ·have h8:=of_decide_eq_true (by assumption:decide (8<(q.b.length:Int))=true)
   conv=>whnf
   refine ⟨8,rfl,by omega,?_⟩
   exact ⟨(),(by (refine qf_ [some 0,some 1,some 2,some 3,some 4,some 5,some 6,some 7,some 8,some 9,some 10,some 11] rfl rfl ?_ ?_<;>(repeat' (first|exact qw_ hpe rfl rfl|exact True.intro|exact rfl|exact Or.inl rfl|exact Or.inr rfl|refine And.intro ?_ ?_|fail)))),trivial⟩
 have hdr:q.b.drop (q.b.take 8).length=q.b.drop 8:=by
  rw [List.length_take]
  rcases Nat.lt_or_ge q.b.length 8 with h8|h8
  ·rw [Nat.min_eq_right (by omega),List.drop_length,List.drop_eq_nil_of_le (by omega)]
  ·rw [Nat.min_eq_left h8]
 have hql:q.b.length≤400000000:=by
  refine h.room q ?_
  rw [←hqe]
  unfold qu
  rw [List.getD_eq_getElem?_getD,List.getElem?_eq_getElem hxl]
  exact List.getElem_mem hxl
 conv=>whnf
 refine ⟨_,hgq,?_⟩
 repeat' first|(refine fun (hl:_≤MAXL)=>?_)|refine ⟨(fun _=>rfl),?_⟩|fail
 conv=>whnf
 refine ⟨(q.b.take 8).length,rfl,by rw [List.length_take];omega,?_⟩
 rw [hdr]
 repeat' first|refine ⟨_,_,_,LeL.refl _,?_⟩|refine And.intro (a:=_≤140737488355328) ?_ ?_|refine ⟨(fun _=>rfl),?_⟩|fail
 ·show (0+((q.b.drop 8).map qd_).length)*1≤_
  rw [List.length_map,List.length_drop];omega
 conv=>whnf
 refine ⟨_,hgq,?_⟩
 conv=>whnf
 repeat' first|exact True.intro|refine ⟨_,⟨rfl,rfl⟩,?_⟩|refine And.intro (a:=qj_ _ _ _ _ _ _ _ _) ?_ ?_|fail
 have hgl:ps<(pr m i).got.length:=by rw [h.got,hni];exact hpsl
 have hgg:((pr m i).got.map blV)[ps]?=some (blV (gotK m i ps)):=by
  unfold gotK
  rw [List.getElem?_map,List.getElem?_eq_getElem hgl,List.getD_eq_getElem?_getD,List.getElem?_eq_getElem hgl];rfl
 have hgb:(gotK m i ps).length≤400000000:=by
  refine h.big _ (List.mem_append_left _ ?_)
  unfold gotK
  rw [List.getD_eq_getElem?_getD,List.getElem?_eq_getElem hgl]
  exact List.getElem_mem hgl
 conv=>whnf
 apply Exists.intro
 apply And.intro
 ·conv=>whnf
  refine ⟨_,hei,?_⟩
  repeat' first|refine ⟨rfl,?_⟩|fail
  exact rfl
 conv=>whnf
 refine ⟨trivial,?_⟩
 conv=>whnf
 repeat' first|exact True.intro|refine ⟨_,⟨rfl,rfl⟩,?_⟩|refine And.intro (a:=qj_ _ _ _ _ _ _ _ _) ?_ ?_|fail
 conv=>whnf
 apply Exists.intro
 apply And.intro
 ·conv=>whnf
  refine ⟨_,hei,?_⟩
  repeat' first|refine ⟨rfl,?_⟩|fail
  exact rfl
 conv=>whnf
 refine ⟨trivial,?_⟩
 conv=>whnf
 apply Exists.intro
 apply And.intro
 ·refine ⟨rfl,ps,hps,by rw [List.length_map];exact hgl,?_⟩
  exact ⟨rfl,rfl⟩
 conv=>whnf
 refine ⟨trivial,?_⟩
 conv=>whnf
 repeat' first|refine ⟨_,⟨rfl,rfl⟩,?_⟩|fail
 apply Exists.intro
 apply Exists.intro
 apply And.intro
 ·conv=>whnf
  refine ⟨_,hgg,?_⟩
  repeat' first|refine And.intro (a:=_≤140737488355328) ?_ ?_|refine ⟨(fun _=>rfl),?_⟩|fail
  ·show (0+((gotK m i ps).map qd_).length)*1≤_
   rw [List.length_map];omega
  ·show (([]++(gotK m i ps).map qd_).length+((q.b.take 8).map qd_).length)*1≤_
   rw [List.nil_append,List.length_map,List.length_map,List.length_take];omega
  conv=>whnf
  refine ⟨UInt8,qd_,gotK m i ps++q.b.take 8,LeL.of (by simp),?_⟩
  conv=>whnf
  refine ⟨by rw [List.length_map];exact hgl,?_⟩
  exact ⟨rfl,rfl⟩
 conv=>whnf
 repeat' first|exact True.intro|refine And.intro (a:=qx_ _ _ _ _ _ _) ?_ ?_|fail
 obtain ⟨x,hx⟩:∃ x,gotK m i ps++q.b.take 8=x:=⟨_,rfl⟩
 have hxl2:x.length≤400000008:=by rw [←hx,List.length_append,List.length_take];omega
 conv=>whnf
 refine ql_ [2,7,8,9,10,19] (σ:=Unit) (fun _=>[(21,.sl qd_ x)]) (fun _=>[.box [.sl qh_ m.g,.sl qq_ m.f,.own 1,.own 2,.sl qd_ m.sunk],.row 4 ((m.pipes.map qk_).set (insB m.g i+ps) (qk_ ⟨q.b.drop 8,q.room,q.closed,q.shut⟩)),.rowq 5 (els.set i (q6_ (pr m i))),.row 1 (((pr m i).got.map blV).set ps (blV x)),.row 1 ((pr m i).out.map blV)]++[.box [.ptr 0 0 0],.box [.own 7],.row 1 (frsN m.g m.g.length),.mp 47 3 .pair intV u,.box [.ptr 2 i 0],.box (qh_ m.g[i]).cells,.box [.fn 109 []]]) (fun _=>True) ?_
 conv=>whnf
 refine ⟨?_,fun _ _=>?_⟩
 ·rw [hx]
  conv=>whnf
  repeat' first|exact True.intro|refine ⟨_,⟨rfl,rfl⟩,?_⟩|refine And.intro (a:=qj_ _ _ _ _ _ _ _ _) ?_ ?_|fail
  conv=>whnf
  apply Exists.intro
  apply And.intro
  ·conv=>whnf
   refine ⟨_,hei,?_⟩
   repeat' first|refine ⟨rfl,?_⟩|fail
   exact rfl
  conv=>whnf
  refine ⟨trivial,?_⟩
  conv=>whnf
  repeat' first|exact True.intro|refine ⟨_,⟨rfl,rfl⟩,?_⟩|refine And.intro (a:=qj_ _ _ _ _ _ _ _ _) ?_ ?_|fail
  conv=>whnf
  apply Exists.intro
  apply And.intro
  ·conv=>whnf
   refine ⟨_,hei,?_⟩
   repeat' first|refine ⟨rfl,?_⟩|fail
   exact rfl
  conv=>whnf
  refine ⟨trivial,?_⟩
  conv=>whnf
  apply Exists.intro
  apply And.intro
  ·refine ⟨rfl,ps,hps,by rw [List.length_set,List.length_map];exact hgl,?_⟩
   exact ⟨rfl,rfl⟩
  conv=>whnf
  refine ⟨trivial,?_⟩
  conv=>whnf
  apply Exists.intro
  apply And.intro
  ·conv=>whnf
   refine ⟨_,List.getElem?_set_self (by rw [List.length_map];exact hgl),?_⟩
   exact ⟨rfl,rfl⟩
  conv=>whnf
  refine ⟨trivial,?_⟩
  conv=>whnf
  repeat' first|refine ⟨_,⟨rfl,rfl⟩,?_⟩|fail
  exact ⟨(),(by (refine qf_ [some 0,some 1,some 2,some 3,some 4,some 5,some 6,some 7,some 8,some 9,some 10,some 11] rfl rfl ?_ ?_<;>(repeat' (first|exact qw_ hpe rfl rfl|exact True.intro|exact rfl|exact Or.inl rfl|exact Or.inr rfl|refine And.intro ?_ ?_|fail)))),trivial⟩
 conv=>whnf
 refine ql_ [2,7,8,9,10,19,21] (σ:=Unit) (fun _=>[(22,.int .i64 (wu_ x:Nat)),(23,.int .i64 ((comp x).length:Nat))]) (fun _=>[.box [.sl qh_ m.g,.sl qq_ m.f,.own 1,.own 2,.sl qd_ m.sunk],.row 4 ((m.pipes.map qk_).set (insB m.g i+ps) (qk_ ⟨q.b.drop 8,q.room,q.closed,q.shut⟩)),.rowq 5 (els.set i (q6_ (pr m i))),.row 1 (((pr m i).got.map blV).set ps (blV x)),.row 1 ((pr m i).out.map blV)]++[.box [.ptr 0 0 0],.box [.own 7],.row 1 (frsN m.g m.g.length),.mp 47 3 .pair intV u,.box [.ptr 2 i 0],.box (qh_ m.g[i]).cells,.box [.fn 109 []]]) (fun _=>True) ?_
 conv=>whnf
 refine ⟨?_,fun _ _=>?_⟩
 ·repeat' first|(refine fun (hl:_≤MAXL)=>?_)|fail
  conv=>whnf
  refine qg_ [2,7,8,9,10,19,21,227,228] (σ:=Nat) (fun k=>[(229,.int .i64 k),(22,.int .i64 (wu_ (x.take k):Nat)),(23,.int .i64 ((comp (x.take k)).length:Nat))]) (fun _=>[.box [.sl qh_ m.g,.sl qq_ m.f,.own 1,.own 2,.sl qd_ m.sunk],.row 4 ((m.pipes.map qk_).set (insB m.g i+ps) (qk_ ⟨q.b.drop 8,q.room,q.closed,q.shut⟩)),.rowq 5 (els.set i (q6_ (pr m i))),.row 1 (((pr m i).got.map blV).set ps (blV x)),.row 1 ((pr m i).out.map blV)]++[.box [.ptr 0 0 0],.box [.own 7],.row 1 (frsN m.g m.g.length),.mp 47 3 .pair intV u,.box [.ptr 2 i 0],.box (qh_ m.g[i]).cells,.box [.fn 109 []]]) (fun k=>k≤x.length) (fun k=>x.length-k) 0 ?_
  conv=>whnf
  refine ⟨(by (refine qf_ [some 0,some 1,some 2,some 3,some 4,some 5,some 6,some 7,some 8,some 9,some 10,some 11] rfl rfl ?_ ?_<;>(repeat' (first|exact qw_ hpe rfl rfl|exact True.intro|exact rfl|exact Or.inl rfl|exact Or.inr rfl|refine And.intro ?_ ?_|fail)))),Nat.zero_le _,fun k hk=>?_⟩
  repeat' first|(refine fun (b:Bool) hb=>?_;cases b<;>first|exact absurd hb (by decide)|exact nfl hb|exact nfr hb|skip)|refine And.intro (a:=I64 _) ?_ ?_|refine ⟨_,rfl,?_,rfl,?_⟩|fail
  ·have hkl:k=x.length := by
    have h:=of_decide_eq_false (by assumption:decide ((k:Int)<(x.length:Int))=false)
    omega
   subst hkl
   conv=>whnf
   refine ⟨(),?_,trivial⟩
   rw [List.take_length]
   exact (by (refine qf_ [some 0,some 1,some 2,some 3,some 4,some 5,some 6,some 7,some 8,some 9,some 10,some 11] rfl rfl ?_ ?_<;>(repeat' (first|exact qw_ hpe rfl rfl|exact True.intro|exact rfl|exact Or.inl rfl|exact Or.inr rfl|refine And.intro ?_ ?_|fail))))
  all_goals
   have hk2:k<x.length:=by
    have h:=of_decide_eq_true (by assumption:decide ((k:Int)<(x.length:Int))=true)
    omega
   have hfl:wu_ (x.take k)≤k:=by
    have:=List.count_le_length (a:=(10:UInt8)) (l:=x.take k)
    rw [List.length_take] at this
    unfold wu_
    omega
   have hfs:wu_ (x.take (k+1))=wu_ (x.take k)+if x[k]=10 then 1 else 0:=by
    unfold wu_
    rw [List.take_succ_eq_append_getElem hk2,List.count_append,List.count_singleton]
    simp
   have hcs:comp (x.take (k+1))=if x[k]=10 then x.take k++[x[k]] else comp (x.take k):=by
    rw [List.take_succ_eq_append_getElem hk2]
    exact qyi_ _ _
  ·exact hk2
  ·unfold I64;omega
  ·have hn:¬ x[k]=10 := fun e => by
    have h:=of_decide_eq_false (by assumption:decide ((x[k].toNat:Int)=10)=false)
    rw [e] at h
    exact h rfl
   rw [if_neg hn] at hfs hcs
   have hA:V.int .i64 ((wu_ (x.take (k+1)):Nat):Int)=V.int .i64 ((wu_ (x.take k):Nat):Int):=by rw [hfs];rfl
   have hB:V.int .i64 (((comp (x.take (k+1))).length:Nat):Int)=V.int .i64 (((comp (x.take k)).length:Nat):Int):=by rw [hcs]
   conv=>whnf
   refine ⟨k+1,?_,hk2,by omega⟩
   refine qf_ [some 0,some 1,some 2,some 3,some 4,some 5,some 6,some 7,some 8,some 9,some 10,some 11] rfl rfl ?_ ?_<;>(repeat' (first|exact qw_ hpe rfl rfl|exact hA|exact hB|exact True.intro|exact rfl|exact Or.inl rfl|exact Or.inr rfl|refine And.intro ?_ ?_|fail))
  ·unfold I64;omega
  ·unfold I64;omega
  ·unfold I64;omega
  ·have hn:x[k]=10 := by
    have h:=of_decide_eq_true (by assumption:decide ((x[k].toNat:Int)=10)=true)
    exact UInt8.toNat_inj.1 (show x[k].toNat=(10:UInt8).toNat by have:(10:UInt8).toNat=10:=rfl;omega)
   rw [if_pos hn] at hfs hcs
   have hcl:(comp (x.take (k+1))).length=k+1:=by
    rw [hcs,List.length_append,List.length_take,List.length_singleton]
    omega
   have hA:V.int .i64 ((wu_ (x.take (k+1)):Nat):Int)=V.int .i64 (((wu_ (x.take k):Nat):Int)+1):=by rw [hfs];rfl
   have hB:V.int .i64 (((comp (x.take (k+1))).length:Nat):Int)=V.int .i64 ((k:Int)+1):=by rw [hcl];rfl
   conv=>whnf
   refine ⟨k+1,?_,hk2,by omega⟩
   refine qf_ [some 0,some 1,some 2,some 3,some 4,some 5,some 6,some 7,some 8,some 9,some 10,some 11] rfl rfl ?_ ?_<;>(repeat' (first|exact qw_ hpe rfl rfl|exact hA|exact hB|exact True.intro|exact rfl|exact Or.inl rfl|exact Or.inr rfl|refine And.intro ?_ ?_|fail))
 have hcr:=qeq_ x
 have htk:x.take (comp x).length=comp x:=by
  have:(comp x++rest x).take (comp x).length=comp x:=List.take_left
  rwa [hcr] at this
 have hdp:x.drop (comp x).length=rest x:=by
  have:(comp x++rest x).drop (comp x).length=rest x:=List.drop_left
  rwa [hcr] at this
 have hcxl:(comp x).length≤x.length:=by
  have:=congrArg List.length hcr
  rw [List.length_append] at this
  omega
 obtain ⟨m1,hm1⟩:∃ m1,setQ m (insB m.g i+ps) ⟨q.b.drop 8,q.room,q.closed,q.shut⟩=m1:=⟨_,rfl⟩
 rw [hm1] at hrd
 have hstM:qv_ m i=(xk_ m1 i (q.b.take 8),0):=hst _ hrd
 have g1:m1.g=m.g:=by rw [←hm1];rfl
 have p1:pr m1 i=pr m i:=by rw [←hm1];rfl
 have hx1:gotK m1 i ps++q.b.take 8=x:=by rw [←hx,←hm1];rfl
 have hk1:(pr m1 i).pos.toNat=ps:=by rw [p1,hpos]
 have n1:ndG m1.g i=m.g[i]:=by rw [g1,hnd]
 have hmp1:i<m1.p.length:=by rw [←hm1];exact hmp
 conv=>whnf
 refine qjf_ ?_
 conv=>whnf
 have hnone:∀ (hk5:¬ m.g[i].kind=5) (hbe:¬ (wv_ m.g[i]=true∨ya_ m.g[i]=true)) (hhd:¬ (vg_ m.g[i]=true∧m.g[i].c.n≤(wu_ x:Int))) (ex:Rows),K (.int .i64 0) ([.box [.sl qh_ m.g,.sl qq_ m.f,.own 1,.own 2,.sl qd_ m.sunk],.row 4 ((m.pipes.map qk_).set (insB m.g i+ps) (qk_ ⟨q.b.drop 8,q.room,q.closed,q.shut⟩)),.rowq 5 (els.set i (q6_ (pr m i))),.row 1 (((pr m i).got.map blV).set ps (blV x)),.row 1 ((pr m i).out.map blV)]++ex):=fun hk5 hbe hhd ex=>by
  have e:=qku_ (m:=m1) (i:=i) (b:=q.b.take 8) (k:=ps) hk1 (by rw [n1];exact hk5) (by rw [n1];exact hbe) (by rw [n1,hx1];exact hhd)
  rw [e] at hstM
  have hfin:=hend _ 0 ex hstM
  rw [xj_ hmp1,hx1,p1,←hm1] at hfin
  unfold setQ setGot at hfin
  dsimp only at hfin
  rw [List.map_set,List.map_set] at hfin
  exact hfin
 repeat' first|exact True.intro|(refine fun (b:Bool) hb=>?_;cases b<;>first|exact absurd hb (by decide)|exact nfl hb|exact nfr hb|skip)|refine ⟨_,⟨rfl,rfl⟩,?_⟩|refine And.intro (a:=qj_ _ _ _ _ _ _ _ _) ?_ ?_|fail
 all_goals first|(refine qhd_ (p:=m.g[i].kind=3) ?_ ?_<;>assumption)|(refine zcs_ (k:=m.g[i].kind) ?_ ?_<;>assumption)|skip
 all_goals have hbe0 : ¬ (m.g[i].kind = 4 ∧ m.g[i].how = 1) → ¬ (m.g[i].kind = 3 ∧ Gp.each m.g[i].c = true) → ¬ (wv_ m.g[i] = true ∨ ya_ m.g[i] = true) := fun a b h => by
             unfold wv_ ya_ at h
             simp only [Bool.and_eq_true,decide_eq_true_eq] at h
             exact h.elim a b
 ·have hk5:¬ m.g[i].kind=5:=of_decide_eq_false (by assumption)
  have hk4:¬ m.g[i].kind=4:=of_decide_eq_false (by assumption)
  have hk3:¬ m.g[i].kind=3:=of_decide_eq_false (by assumption)
  conv=>whnf
  refine WkE.of ⟨fun _ _ _ _ _ _ _ _ S=>S⟩ ?_
  conv=>whnf
  exact hnone hk5 (hbe0 (fun h=>hk4 h.1) (fun h=>hk3 h.1)) (fun h=>by unfold vg_ at h;simp only [Bool.and_eq_true,decide_eq_true_eq] at h;exact hk3 h.1.1) _
 ·have hk5:¬ m.g[i].kind=5:=of_decide_eq_false (by assumption)
  have hk4:¬ m.g[i].kind=4:=of_decide_eq_false (by assumption)
  have hk3:m.g[i].kind=3:=of_decide_eq_true (by assumption)
  conv=>whnf
  refine ⟨m.g[i].c,rfl,?_⟩
  repeat' first|exact True.intro|(refine fun (b:Bool) hb=>?_;cases b<;>first|exact absurd hb (by decide)|exact nfl hb|exact nfr hb|skip)|refine ⟨_,⟨rfl,rfl⟩,?_⟩|refine And.intro (a:=qj_ _ _ _ _ _ _ _ _) ?_ ?_|fail
  all_goals first|(refine qhd_ (p:=m.g[i].kind=3) (decide_eq_true hk3) ?_<;>assumption)|skip
  ·have he:Gp.each m.g[i].c=false:=by assumption
   have hc9:¬ m.g[i].c.kind=9:=of_decide_eq_false (by assumption)
   conv=>whnf
   refine WkE.of ⟨fun _ _ _ _ _ _ _ _ S=>S⟩ ?_
   conv=>whnf
   exact hnone hk5 (hbe0 (fun h=>hk4 h.1) (fun h=>by rw [he] at h;cases h.2)) (fun h=>by unfold vg_ at h;simp only [Bool.and_eq_true,decide_eq_true_eq] at h;exact hc9 h.1.2) _
  ·have he:Gp.each m.g[i].c=false:=by assumption
   have hnf:¬ m.g[i].c.n≤(wu_ x:Int):=of_decide_eq_false (by assumption)
   conv=>whnf
   refine WkE.of ⟨fun _ _ _ _ _ _ _ _ S=>S⟩ ?_
   conv=>whnf
   exact hnone hk5 (hbe0 (fun h=>hk4 h.1) (fun h=>by rw [he] at h;cases h.2)) (fun h=>hnf h.2) _
  ·have he:Gp.each m.g[i].c=false:=by assumption
   have hc9:m.g[i].c.kind=9:=of_decide_eq_true (by assumption)
   have hnf:m.g[i].c.n≤(wu_ x:Int):=of_decide_eq_true (by assumption)
   have hcn:=hgf.node i hlt
   rw [hnd] at hcn
   have hps0:ps=0:=by
    have h1:m.g[i].ins.length=1:=by
     rcases z3_ hcn with h|h|h|h|h
     ·omega
     ·omega
     ·exact h.2.1
     ·omega
     ·omega
    omega
   have hgf2:(gotK m i ps).length≤(pr m i).got.flatten.length:=w4_ _ _
   have hx4:x.length≤400000000:=by rw [←hx,List.length_append,List.length_take];omega
   obtain ⟨M2,hM2⟩:∃ M2:MachS,M2=⟨m.g,m.f,m.pipes.set (insB m.g i+ps) (yy_ q),m.p.set i (setGot (pr m i) ps x),m.sunk⟩:=⟨_,rfl⟩
   have hpr2:pr M2 i=setGot (pr m i) ps x:=by
    rw [hM2]
    show (m.p.set i _).getD i q3v_=_
    rw [xy_,if_pos ⟨rfl,hmp⟩]
   have hF2:FocOK M2 i els:=by
    refine ⟨by rw [hM2];exact h.g,by rw [hM2];exact h.f,by rw [hM2];show (m.p.set i _).length=_;rw [List.length_set];exact h.np,by rw [hM2];show (m.pipes.set _ _).length=_;rw [List.length_set];exact h.nq,by rw [hM2];exact h.lt,by rw [hM2];exact h.nl,?_,?_,fun p hp=>?_,h.pe,fun b hb=>?_⟩
    ·rw [hpr2,hM2]
     show ((pr m i).got.set ps x).length=_
     rw [List.length_set]
     exact h.got
    ·rw [hpr2,hM2]
     exact h.out
    ·rw [hM2] at hp
     rcases List.mem_or_eq_of_mem_set hp with hp|rfl
     ·exact h.room p hp
     ·exact Nat.zero_le _
    ·rw [hpr2] at hb
     have hb2:b∈(pr m i).got.set ps x++(pr m i).out:=hb
     rcases List.mem_append.1 hb2 with hb|hb
     ·rcases List.mem_or_eq_of_mem_set hb with hb|rfl
      ·exact h.big b (List.mem_append_left _ hb)
      ·exact hx4
     ·exact h.big b (List.mem_append_right _ hb)
   have hfl2:(pr M2 i).got.flatten.length≤500000000:=by
    rw [hpr2]
    show ((pr m i).got.set ps x).flatten.length≤_
    have:=qae_ (pr m i).got ps x hgl
    have e3:((pr m i).got.getD ps []).length=(gotK m i ps).length:=rfl
    have e4:x.length≤(gotK m i ps).length+8:=by rw [←hx,List.length_append,List.length_take];omega
    omega
   have e:=qkt_ (m:=m1) (i:=i) (b:=q.b.take 8) (k:=ps) hk1 (by rw [n1];exact hk5) (by rw [n1];exact hbe0 (fun h=>hk4 h.1) (fun h=>by rw [he] at h;cases h.2)) (by rw [n1,hx1];refine ⟨?_,hnf⟩;unfold vg_;simp [hk3,hc9])
   have e2:xk_ m1 i (q.b.take 8)=z5_ M2 i:=by
    rw [e,hx1,p1,g1,hM2,←hm1,hps0]
    congr 1
    show MachS.mk m.g m.f ((m.pipes.set (insB m.g i+0) _).set (insB m.g i) (yy_ (qu (setQ m (insB m.g i+0) _) (insB m.g i)))) _ m.sunk=_
    rw [Nat.add_zero,List.set_set,qqo_ (by omega),if_pos rfl]
    rfl
   rw [e2] at hstM
   conv=>whnf
   refine ql_ [10] (σ:=Unit) (fun _=>[]) (fun _=>[.box [.sl qh_ m.g,.sl qq_ m.f,.own 1,.own 2,.sl qd_ m.sunk],.row 4 ((m.pipes.set (insB m.g i+ps) (yy_ q)).map qk_),.rowq 5 (els.set i (q6_ (pr m i))),.row 1 (((pr m i).got.map blV).set ps (blV x)),.row 1 ((pr m i).out.map blV)]++[.box [.ptr 0 0 0],.box [.own 7],.row 1 (frsN m.g m.g.length),.mp 47 3 .pair intV u,.box [.ptr 2 i 0],.box (qh_ m.g[i]).cells,.box [.fn 109 []]]) (fun _=>True) ?_
   conv=>whnf
   refine ⟨?_,fun _ _=>?_⟩
   ·conv=>whnf
    refine ⟨_,List.getElem?_set_self (by rw [List.length_map];exact hxl),?_⟩
    conv=>whnf
    refine ⟨_,List.getElem?_set_self (by rw [List.length_set,List.length_map];exact hxl),?_⟩
    conv=>whnf
    rw [List.set_set,List.set_set]
    exact ⟨(),(wk_le 1 rfl (q5o_ (q:=q))).trans (by (refine qf_ [some 0,some 1,some 2,some 3,some 4,some 5,some 6,some 7,some 8,some 9,some 10,some 11] rfl rfl ?_ ?_<;>(repeat' (first|exact qw_ hpe rfl rfl|exact True.intro|exact rfl|exact Or.inl rfl|exact Or.inr rfl|refine And.intro ?_ ?_|fail)))),trivial⟩
   conv=>whnf
   refine ⟨M2,i,els,u,rfl,hF2,hfl2,?_,fun a ex ha h1 h2=>?_⟩
   ·rw [hM2,xj_ hmp]
    show _=_++yr_ 109 47 3 m i u
    unfold yr_ setGot
    rw [hnd]
    dsimp only
    rw [List.map_set (f:=blV)]
    rfl
   conv=>whnf
   refine WkE.of ⟨fun _ _ _ _ _ _ _ _ S=>S⟩ ?_
   conv=>whnf
   exact hend2 _ _ a ex hstM ha h1 h2
  have he:Gp.each m.g[i].c=true:=by assumption
  have hol:0<(pr m i).out.length:=by
   rw [h.out]
   unfold nO zh_
   rw [hnd,if_neg (by omega),if_neg (by omega)]
   decide
  have hgo:((pr m i).out.map blV)[0]?=some (blV (outK m i 0)):=by
   unfold outK
   rw [List.getElem?_map,List.getElem?_eq_getElem hol,List.getD_eq_getElem?_getD,List.getElem?_eq_getElem hol];rfl
  have hob:(outK m i 0).length≤400000000:=by
   refine h.big _ (List.mem_append_right _ ?_)
   unfold outK
   rw [List.getD_eq_getElem?_getD,List.getElem?_eq_getElem hol]
   exact List.getElem_mem hol
  have hcn:=hgf.node i hlt
  rw [hnd] at hcn
  have hcc:qz_ m.g[i].c=0:=by
   rcases z3_ hcn with h|h|h|h|h
   ·omega
   ·omega
   ·exact h.2.2
   ·omega
   ·omega
  have hl1:=xl_ (comp x)
  have hel:=vt_ (comp x)
  have hp1:=xn_ (comp x)
  have hlp:=yb_ hcc (qc_ (comp x)) (by omega)
  conv=>whnf
  apply Exists.intro
  apply And.intro
  ·conv=>whnf
   refine ⟨_,hei,?_⟩
   repeat' first|refine ⟨rfl,?_⟩|fail
   exact rfl
  conv=>whnf
  refine ⟨trivial,?_⟩
  conv=>whnf
  apply Exists.intro
  apply And.intro
  ·refine ⟨rfl,0,rfl,by rw [List.length_map];exact hol,?_⟩
   exact ⟨rfl,rfl⟩
  conv=>whnf
  refine ⟨trivial,?_⟩
  conv=>whnf
  repeat' first|exact True.intro|refine ⟨_,⟨rfl,rfl⟩,?_⟩|refine And.intro (a:=qj_ _ _ _ _ _ _ _ _) ?_ ?_|fail
  conv=>whnf
  refine ⟨.sl qd_ (x.take (comp x).length),⟨fun _=>rfl,(comp x).length,rfl,hcxl,rfl,rfl⟩,?_⟩
  rw [htk]
  conv=>whnf
  apply Exists.intro
  apply And.intro
  ·refine ⟨comp x,rfl,by omega,?_⟩
   exact ⟨rfl,rfl⟩
  conv=>whnf
  apply Exists.intro
  apply And.intro
  ·refine ⟨m.g[i].c,qc_ (comp x),rfl,⟨hcc,by omega,fun s hs=>by have:=hel s hs;omega⟩,?_⟩
   exact ⟨rfl,rfl⟩
  conv=>whnf
  apply Exists.intro
  apply And.intro
  ·refine ⟨zq_ m.g[i].c (qc_ (comp x)),rfl,by omega,?_⟩
   exact ⟨rfl,rfl⟩
  conv=>whnf
  apply Exists.intro
  apply Exists.intro
  apply And.intro
  ·conv=>whnf
   refine ⟨_,hgo,?_⟩
   repeat' first|refine And.intro (a:=_≤140737488355328) ?_ ?_|refine ⟨(fun _=>rfl),?_⟩|fail
   ·show (0+((outK m i 0).map qd_).length)*1≤_
    rw [List.length_map];omega
   ·show (([]++(outK m i 0).map qd_).length+((put (zq_ m.g[i].c (qc_ (comp x)))).map qd_).length)*1≤_
    rw [List.nil_append,List.length_map,List.length_map];omega
   conv=>whnf
   refine ⟨UInt8,qd_,outK m i 0++put (zq_ m.g[i].c (qc_ (comp x))),LeL.of (by simp),?_⟩
   conv=>whnf
   refine ⟨by rw [List.length_map];exact hol,?_⟩
   exact ⟨rfl,rfl⟩
  conv=>whnf
  repeat' first|exact True.intro|refine ⟨_,⟨rfl,rfl⟩,?_⟩|refine And.intro (a:=qx_ _ _ _ _ _ _) ?_ ?_|refine And.intro (a:=qj_ _ _ _ _ _ _ _ _) ?_ ?_|fail
  conv=>whnf
  apply Exists.intro
  apply And.intro
  ·conv=>whnf
   refine ⟨_,hei,?_⟩
   repeat' first|refine ⟨rfl,?_⟩|fail
   exact rfl
  conv=>whnf
  refine ⟨trivial,?_⟩
  conv=>whnf
  repeat' first|exact True.intro|refine ⟨_,⟨rfl,rfl⟩,?_⟩|refine And.intro (a:=qj_ _ _ _ _ _ _ _ _) ?_ ?_|fail
  conv=>whnf
  apply Exists.intro
  apply And.intro
  ·conv=>whnf
   refine ⟨_,hei,?_⟩
   repeat' first|refine ⟨rfl,?_⟩|fail
   exact rfl
  conv=>whnf
  refine ⟨trivial,?_⟩
  conv=>whnf
  repeat' first|refine ⟨_,⟨rfl,rfl⟩,?_⟩|fail
  refine ⟨.sl qd_ (x.drop (comp x).length),⟨fun _=>rfl,(comp x).length,rfl,hcxl,rfl,rfl⟩,?_⟩
  conv=>whnf
  apply Exists.intro
  apply And.intro
  ·refine ⟨rfl,ps,hps,by rw [List.length_set,List.length_map];exact hgl,?_⟩
   exact ⟨rfl,rfl⟩
  conv=>whnf
  refine ⟨trivial,?_⟩
  conv=>whnf
  apply Exists.intro
  apply Exists.intro
  apply And.intro
  ·conv=>whnf
   refine ⟨by rw [List.length_set,List.length_map];exact hgl,?_⟩
   exact ⟨rfl,rfl⟩
  conv=>whnf
  repeat' first|exact True.intro|refine And.intro (a:=qx_ _ _ _ _ _ _) ?_ ?_|fail
  conv=>whnf
  refine WkE.of (L':=[]) (rows':=[.box [.sl qh_ m.g,.sl qq_ m.f,.own 1,.own 2,.sl qd_ m.sunk],.row 4 ((m.pipes.map qk_).set (insB m.g i+ps) (qk_ ⟨q.b.drop 8,q.room,q.closed,q.shut⟩)),.rowq 5 (els.set i (q6_ (pr m i))),.row 1 (((pr m i).got.map blV).set ps (blV (rest x))),.row 1 (((pr m i).out.map blV).set 0 (blV (outK m i 0++put (zq_ m.g[i].c (qc_ (comp x))))))]) (by rw [List.set_set,hdp];exact (by (refine qf_ [some 0,some 1,some 2,some 3,some 4] rfl rfl ?_ ?_<;>(repeat' (first|exact qw_ hpe rfl rfl|exact True.intro|exact rfl|exact Or.inl rfl|exact Or.inr rfl|refine And.intro ?_ ?_|fail))))) ?_
  conv=>whnf
  have e:=qen_ (m:=m1) (i:=i) (b:=q.b.take 8) (k:=ps) hk1 (by rw [n1];exact hk5) (by rw [n1];right;unfold ya_;simp [hk3,he])
  rw [e] at hstM
  have hfin:=hend _ 0 [] hstM
  rw [xj_ hmp1,hx1,p1,n1,if_pos hk3] at hfin
  have ho1:outK m1 i 0=outK m i 0:=by unfold outK;rw [p1]
  rw [ho1,←hm1] at hfin
  unfold setQ setOut setGot at hfin
  dsimp only at hfin
  rw [List.map_set (f:=qk_),List.map_set,List.map_set] at hfin
  exact hfin
 ·have hk5:¬ m.g[i].kind=5:=of_decide_eq_false (by assumption)
  have hh1:¬ m.g[i].how=1:=of_decide_eq_false (by assumption)
  have hk3:¬ m.g[i].kind=3:=of_decide_eq_false (by assumption)
  conv=>whnf
  refine WkE.of ⟨fun _ _ _ _ _ _ _ _ S=>S⟩ ?_
  conv=>whnf
  exact hnone hk5 (hbe0 (fun h=>hh1 h.2) (fun h=>hk3 h.1)) (fun h=>by unfold vg_ at h;simp only [Bool.and_eq_true,decide_eq_true_eq] at h;exact hk3 h.1.1) _
 ·have hk5:¬ m.g[i].kind=5:=of_decide_eq_false (by assumption)
  have hk4:m.g[i].kind=4:=of_decide_eq_true (by assumption)
  have hh1:m.g[i].how=1:=of_decide_eq_true (by assumption)
  have hol:0<(pr m i).out.length:=by
   rw [h.out]
   unfold nO zh_
   rw [hnd,if_neg (by omega),if_neg (by omega)]
   decide
  have hgo:((pr m i).out.map blV)[0]?=some (blV (outK m i 0)):=by
   unfold outK
   rw [List.getElem?_map,List.getElem?_eq_getElem hol,List.getD_eq_getElem?_getD,List.getElem?_eq_getElem hol];rfl
  have hob:(outK m i 0).length≤400000000:=by
   refine h.big _ (List.mem_append_right _ ?_)
   unfold outK
   rw [List.getD_eq_getElem?_getD,List.getElem?_eq_getElem hol]
   exact List.getElem_mem hol
  conv=>whnf
  apply Exists.intro
  apply And.intro
  ·conv=>whnf
   refine ⟨_,hei,?_⟩
   repeat' first|refine ⟨rfl,?_⟩|fail
   exact rfl
  conv=>whnf
  refine ⟨trivial,?_⟩
  conv=>whnf
  apply Exists.intro
  apply And.intro
  ·refine ⟨rfl,0,rfl,by rw [List.length_map];exact hol,?_⟩
   exact ⟨rfl,rfl⟩
  conv=>whnf
  refine ⟨trivial,?_⟩
  conv=>whnf
  repeat' first|refine ⟨_,⟨rfl,rfl⟩,?_⟩|fail
  refine ⟨.sl qd_ (x.take (comp x).length),⟨fun _=>rfl,(comp x).length,rfl,hcxl,rfl,rfl⟩,?_⟩
  conv=>whnf
  apply Exists.intro
  apply Exists.intro
  apply And.intro
  ·conv=>whnf
   refine ⟨_,hgo,?_⟩
   repeat' first|refine And.intro (a:=_≤140737488355328) ?_ ?_|refine ⟨(fun _=>rfl),?_⟩|fail
   ·show (0+((outK m i 0).map qd_).length)*1≤_
    rw [List.length_map];omega
   ·show (([]++(outK m i 0).map qd_).length+((x.take (comp x).length).map qd_).length)*1≤_
    rw [List.nil_append,List.length_map,List.length_map,List.length_take];omega
   conv=>whnf
   refine ⟨UInt8,qd_,outK m i 0++x.take (comp x).length,LeL.of (by simp),?_⟩
   conv=>whnf
   refine ⟨by rw [List.length_map];exact hol,?_⟩
   exact ⟨rfl,rfl⟩
  conv=>whnf
  repeat' first|exact True.intro|refine ⟨_,⟨rfl,rfl⟩,?_⟩|refine And.intro (a:=qx_ _ _ _ _ _ _) ?_ ?_|refine And.intro (a:=qj_ _ _ _ _ _ _ _ _) ?_ ?_|fail
  conv=>whnf
  apply Exists.intro
  apply And.intro
  ·conv=>whnf
   refine ⟨_,hei,?_⟩
   repeat' first|refine ⟨rfl,?_⟩|fail
   exact rfl
  conv=>whnf
  refine ⟨trivial,?_⟩
  conv=>whnf
  repeat' first|exact True.intro|refine ⟨_,⟨rfl,rfl⟩,?_⟩|refine And.intro (a:=qj_ _ _ _ _ _ _ _ _) ?_ ?_|fail
  conv=>whnf
  apply Exists.intro
  apply And.intro
  ·conv=>whnf
   refine ⟨_,hei,?_⟩
   repeat' first|refine ⟨rfl,?_⟩|fail
   exact rfl
  conv=>whnf
  refine ⟨trivial,?_⟩
  conv=>whnf
  repeat' first|refine ⟨_,⟨rfl,rfl⟩,?_⟩|fail
  refine ⟨.sl qd_ (x.drop (comp x).length),⟨fun _=>rfl,(comp x).length,rfl,hcxl,rfl,rfl⟩,?_⟩
  conv=>whnf
  apply Exists.intro
  apply And.intro
  ·refine ⟨rfl,ps,hps,by rw [List.length_set,List.length_map];exact hgl,?_⟩
   exact ⟨rfl,rfl⟩
  conv=>whnf
  refine ⟨trivial,?_⟩
  conv=>whnf
  apply Exists.intro
  apply Exists.intro
  apply And.intro
  ·conv=>whnf
   refine ⟨by rw [List.length_set,List.length_map];exact hgl,?_⟩
   exact ⟨rfl,rfl⟩
  conv=>whnf
  repeat' first|exact True.intro|refine And.intro (a:=qx_ _ _ _ _ _ _) ?_ ?_|fail
  conv=>whnf
  refine WkE.of (L':=[]) (rows':=[.box [.sl qh_ m.g,.sl qq_ m.f,.own 1,.own 2,.sl qd_ m.sunk],.row 4 ((m.pipes.map qk_).set (insB m.g i+ps) (qk_ ⟨q.b.drop 8,q.room,q.closed,q.shut⟩)),.rowq 5 (els.set i (q6_ (pr m i))),.row 1 (((pr m i).got.map blV).set ps (blV (rest x))),.row 1 (((pr m i).out.map blV).set 0 (blV (outK m i 0++comp x)))]) (by rw [List.set_set,htk,hdp];exact (by (refine qf_ [some 0,some 1,some 2,some 3,some 4] rfl rfl ?_ ?_<;>(repeat' (first|exact qw_ hpe rfl rfl|exact True.intro|exact rfl|exact Or.inl rfl|exact Or.inr rfl|refine And.intro ?_ ?_|fail))))) ?_
  conv=>whnf
  have e:=qen_ (m:=m1) (i:=i) (b:=q.b.take 8) (k:=ps) hk1 (by rw [n1];exact hk5) (by rw [n1];left;unfold wv_;simp [hk4,hh1])
  have hpc:put (qc_ (comp x))=comp x:=by
   rcases qkk_ (comp x) with h1|h1
   ·exact h1.1
   ·exact absurd (qg4_ x) h1.2
  rw [e] at hstM
  have hfin:=hend _ 0 [] hstM
  rw [xj_ hmp1,hx1,p1,n1,if_neg (by omega),hpc] at hfin
  have ho1:outK m1 i 0=outK m i 0:=by unfold outK;rw [p1]
  rw [ho1,←hm1] at hfin
  unfold setQ setOut setGot at hfin
  dsimp only at hfin
  rw [List.map_set (f:=qk_),List.map_set,List.map_set] at hfin
  exact hfin
 ·have hk5:m.g[i].kind=5:=of_decide_eq_true (by assumption)
  conv=>whnf
  apply Exists.intro
  apply Exists.intro
  apply And.intro
  ·conv=>whnf
   repeat' first|refine And.intro (a:=_≤140737488355328) ?_ ?_|refine ⟨(fun _=>rfl),?_⟩|refine ⟨rfl,?_⟩|fail
   ·show (0+(m.sunk.map qd_).length)*1≤_
    rw [List.length_map];omega
   ·show (([]++m.sunk.map qd_).length+(x.map qd_).length)*1≤_
    rw [List.nil_append,List.length_map,List.length_map];omega
   exact rfl
  conv=>whnf
  repeat' first|exact True.intro|refine ⟨_,⟨rfl,rfl⟩,?_⟩|refine And.intro (a:=qx_ _ _ _ _ _ _) ?_ ?_|refine And.intro (a:=qj_ _ _ _ _ _ _ _ _) ?_ ?_|fail
  conv=>whnf
  apply Exists.intro
  apply And.intro
  ·conv=>whnf
   refine ⟨_,hei,?_⟩
   repeat' first|refine ⟨rfl,?_⟩|fail
   exact rfl
  conv=>whnf
  refine ⟨trivial,?_⟩
  conv=>whnf
  repeat' first|exact True.intro|refine ⟨_,⟨rfl,rfl⟩,?_⟩|refine And.intro (a:=qj_ _ _ _ _ _ _ _ _) ?_ ?_|fail
  conv=>whnf
  apply Exists.intro
  apply And.intro
  ·conv=>whnf
   refine ⟨_,hei,?_⟩
   repeat' first|refine ⟨rfl,?_⟩|fail
   exact rfl
  conv=>whnf
  refine ⟨trivial,?_⟩
  conv=>whnf
  apply Exists.intro
  apply And.intro
  ·refine ⟨rfl,ps,hps,by rw [List.length_set,List.length_map];exact hgl,?_⟩
   exact ⟨rfl,rfl⟩
  conv=>whnf
  refine ⟨trivial,?_⟩
  conv=>whnf
  apply Exists.intro
  apply Exists.intro
  apply And.intro
  ·conv=>whnf
   refine ⟨by rw [List.length_set,List.length_map];exact hgl,?_⟩
   exact ⟨rfl,rfl⟩
  conv=>whnf
  repeat' first|exact True.intro|refine And.intro (a:=qx_ _ _ _ _ _ _) ?_ ?_|fail
  conv=>whnf
  refine WkE.of (L':=[]) (rows':=[.box [.sl qh_ m.g,.sl qq_ m.f,.own 1,.own 2,.sl qd_ (m.sunk++x)],.row 4 ((m.pipes.map qk_).set (insB m.g i+ps) (qk_ ⟨q.b.drop 8,q.room,q.closed,q.shut⟩)),.rowq 5 (els.set i (q6_ (pr m i))),.row 1 (((pr m i).got.set ps []).map blV),.row 1 ((pr m i).out.map blV)]) ((wk_fz 14 (enc:=qd_) (l:=m.sunk++x) rfl (LeL.of (by simp))).trans ((wk_le (els':=((pr m i).got.set ps []).map blV) 3 rfl (by rw [List.set_set];exact qpy_ ps)).trans (by (refine qf_ [some 0,some 1,some 2,some 3,some 4] rfl rfl ?_ ?_<;>(repeat' (first|exact qw_ hpe rfl rfl|exact True.intro|exact rfl|exact Or.inl rfl|exact Or.inr rfl|refine And.intro ?_ ?_|fail)))))) ?_
  conv=>whnf
  have e:=qkv_ (m:=m1) (i:=i) (b:=q.b.take 8) (k:=ps) hk1 (by rw [n1];exact hk5)
  rw [e] at hstM
  have hfin:=hend _ 0 [] hstM
  rw [xj_ hmp1,hx1,p1,←hm1] at hfin
  unfold setQ setGot at hfin
  dsimp only at hfin
  rw [List.map_set (f:=qk_)] at hfin
  exact hfin
end Gv
namespace Gv
variable [Glob] [Laid] [Nums] [Errs]
theorem qrd_:qb_ Tryz.prog 49=true:=by kernel_rfl
def qh9_:qn_:=fun args rows K=>∃ (m:MachS) (i r0 r1 r2 r3:Nat) (Q:Loc),args=[.ptr r0 0 0,.int .i64 i]∧rows[r0]?=some (.box [.sl qh_ m.g,.sl qq_ m.f,.own r1,.own r2,.sl qd_ m.sunk])∧rows[r1]?=some (.row 4 (m.pipes.map qk_))∧rows[r2]?=some (.row 5 (qo_ Q m.p))∧rows[r3]?=some (.pack Q (q3_ m.p))∧FocM m i∧qra_ m i∧∀ Q',setK rows r0 (.box [.sl qh_ (qv_ m i).1.g,.sl qq_ (qv_ m i).1.f,.own r1,.own r2,.sl qd_ (qv_ m i).1.sunk]) fun a=>setK a r1 (.row 4 ((qv_ m i).1.pipes.map qk_)) fun b=>setK b r2 (.row 5 (qo_ Q' (qv_ m i).1.p)) fun c=>setK c r3 (.pack Q' (q3_ (qv_ m i).1.p)) fun d=>K (.int .i64 (qv_ m i).2) d
theorem qkg_:q1_ Tryz.prog 49 qh9_:=by
 intro w0 m0 args rows K R m' q w us C hv hT
 obtain ⟨m,i,r0,r1,r2,r3,Q,rfl,h0,h1,h2,h3,hF,hZ,hK⟩:=hT
 refine qrb_ qkf_ w0 m0 _ _ K R m' q w us C hv ⟨m,i,r0,r1,r2,r3,Q,rfl,h0,h1,h2,h3,hF.foc,hZ,fun Q'=>?_⟩
 exact (z6_ _ _ _ _ (z6_ _ _ _ _ (z6_ _ _ _ _ (z6_ _ _ _ _ (hK Q')).2).2).2).2
end Gv
namespace Gv
variable [Glob] [Laid] [Nums] [Errs]
theorem q43_ {n:Nat} {m:MachS} {r:MachS × Int} (h:FinN n m r) (h1:(rnd m).2.1=true):r=((rnd m).1,0):=by
 cases h with
 | over h=>rfl
 | stuck h h2=>rw [h1] at h;cases h
 | more h h2 h3=>rw [h1] at h;cases h
theorem qza_ {n:Nat} {m:MachS} {r:MachS × Int} (h:FinN n m r) (h1:(rnd m).2.1=false) (h2:(rnd m).2.2=false):r=(zM,8):=by
 cases h with
 | over h=>rw [h1] at h;cases h
 | stuck h h2=>rfl
 | more h h4 h3=>rw [h2] at h4;cases h4
theorem q9p_ {n:Nat} {m:MachS} {r:MachS × Int} (h:FinN n m r):r.2≠0→r.1=zM:=by
 induction h with
 | over h=>exact fun h=>absurd rfl h
 | stuck h h2=>exact fun _=>rfl
 | more h h2 h3 ih=>exact ih
theorem q42_ {n:Nat} {m:MachS} {r:MachS × Int} (h:FinN n m r) (h1:(rnd m).2.1=false) (h2:(rnd m).2.2=true):∃ k,n=k+1∧FinN k (rnd m).1 r:=by
 cases h with
 | over h=>rw [h1] at h;cases h
 | stuck h h4=>rw [h2] at h4;cases h4
 | more h h4 h3=>exact ⟨_,rfl,h3⟩
def q3q_:Spec:=fun args K=>∃ (m:MachS) (l:List Int),args=[q7_ m,.sl intV l]∧ownZ m∧K (.bool true)
noncomputable def q3s_:List (Nat × Spec):=[(20,q8t_),(22,qy7_),(46,qlb_),(13,qmo_),(43,q2k_),(50,qsb_)]
noncomputable def q3r_:List (Nat × FnI):=[(51,{fn:=Tryz.f51,hooks:=[],draws:=[]}),(45,{ fn:=Tryz.f45,spec:=some q8i_ }),(49,{ fn:=Tryz.f49,spec:=some qh9_ })]
noncomputable def qrr_:List (Nat × qn_):=[]
theorem zb2_:EnvOK ⟨Tryz.prog,tys,q3s_,q3r_,qrr_,[]⟩:=qs_ qt_ tys0 (.cons zba_ zbb_ (.cons qy8_ qy9_ (.cons qui_ quj_ (.cons qv3_ qv4_ (.cons q61_ q62_ (.cons qyx_ qyy_ .nil)))))) (.cons (by kernel_rfl) ⟨Tryz.func51,by kernel_rfl,by kernel_rfl⟩ (.told zat_ rfl q1d_ (.told qrd_ rfl qkg_ .nil))) .nil rfl
theorem q71_:Pure Tryz.prog 10 q3q_:=by
 refine qp_ zb2_ 6 (fi:={fn:=Tryz.f10,hooks:=[10,18,20,22,24],draws:=[]}) ⟨Tryz.func10,by kernel_rfl,by kernel_rfl⟩ ?_
 rintro _ K ⟨m,l,rfl,hz,hK⟩
 replace hK:∀ r,r=.bool true→K r:=fun r h=>h ▸ hK
 obtain ⟨n,rr,hF⟩:∃ n rr,((qm_ m=0→copyZ m∧IR m∧Steps IR∧FinN n m rr)∧(qm_ m≠0→rr=(zM,qm_ m))):=by
  by_cases hc:qm_ m=0
  ·obtain ⟨n,r,h⟩:=zcz_ (yk_ hc)
   exact ⟨n,r,fun _=>⟨qas_ (yk_ hc),ir_of (yk_ hc),qam_,h⟩,fun h=>absurd hc h⟩
  ·exact ⟨0,_,fun h=>absurd h hc,fun _=>rfl⟩
 skip
 refine ⟨m,l,IR,rfl,fun hc=>⟨qas_ (yk_ hc),ir_of (yk_ hc),qam_⟩,?_⟩
 skip
 refine ⟨m,n,rr,IR,rfl,hF,?_⟩
 skip
 refine ⟨m,rfl,?_⟩
 repeat' first|(refine fun (b:Bool) hb=>?_;cases b<;>first|exact absurd hb (by decide)|exact nfl hb|exact nfr hb|skip)|refine ⟨rfl,?_⟩|fail
 have p1:qm_ m≠0→(runP m l).2.2=qm_ m∧(runP m l).2.1=[]∧(runP m l).1=zM:=fun h=>by
  unfold runP
  rw [if_pos h]
  exact ⟨rfl,rfl,rfl⟩
 have p2:qm_ m=0→40000<l.length→(runP m l).2.2=2∧(runP m l).2.1=[]∧(runP m l).1=zM:=fun h h2=>by
  unfold runP
  rw [if_neg (fun hh=>hh h),if_pos h2]
  exact ⟨rfl,rfl,rfl⟩
 conv=>whnf
 refine ql_ [1,2,5,6,7,8,9] (σ:=Unit) (fun _=>[]) (fun _=>[.box (q7_ m).cells,.box (q7_ (runP m l).1).cells,.box (q7_ rr.1).cells]) (fun _=>qm_ m=0∧l.length≤40000) ?_
 conv=>whnf
 refine ⟨?_,fun _ hcl=>?_⟩
 ·conv=>whnf
  repeat' first|(refine fun (b:Bool) hb=>?_;cases b<;>first|exact absurd hb (by decide)|exact nfl hb|exact nfr hb|skip)|(refine fun (hl:_≤MAXL)=>?_)|fail
  all_goals (try (conv=>whnf))
  all_goals (skip)
  all_goals (try (conv=>whnf))
  all_goals (skip)
  all_goals first
   | exact ⟨(),(by (refine qa_ ?_;refine Sel4.mk rfl rfl ?_ ?_<;>(repeat' first|exact True.intro|exact rfl|exact .inl rfl|exact .inr rfl|refine And.intro ?_ ?_|fail))),by grind⟩
   | (exfalso;clear hF;grind)
   | (refine ⟨Gp.Node, qh_, ?_⟩
      refine ⟨FileS,qq_,?_⟩
      refine ⟨PipeS,qk_,?_⟩
      refine ⟨ProcS,zf_,?_⟩
      refine ⟨UInt8,qd_,?_⟩
      refine ⟨(runP m l).1,zM,rfl,?_⟩
      skip
      refine hK _ ?_
      have e:(runP m l).1=zM:=by clear hF;grind
      rw [e,sameMB_iff.2 rfl])
 obtain ⟨hc,hl⟩:=hcl
 have hrun:runP m l=((xi_ l m []).1,(xi_ l m []).2,0):=by
  unfold runP
  rw [if_neg (by rw [hc];decide),if_neg (by omega)]
 conv=>whnf
 refine ⟨m,rfl,hz,fun Q0=>?_⟩
 conv=>whnf
 refine ql_ [2,5,6,7,8,9,11] (σ:=Unit) (fun _=>[(12,.sl intV (xi_ l m []).2)]) (fun _=>[.box (q7_ m).cells,.box (q7_ (runP m l).1).cells,.box (q7_ rr.1).cells,.dead,.dead,.dead,.box (q7_ (xi_ l m []).1).cells]) (fun _=>True) ?_
 conv=>whnf
 refine ⟨?_,fun _ _=>?_⟩
 ·conv=>whnf
  repeat' first|(refine fun (hl:_≤MAXL)=>?_)|fail
  conv=>whnf
  refine qg_ [2,5,6,7,8,9,11,58,59] (σ:=Nat × MachS × Loc × List Int) (fun s=>[(60,.int .i64 s.1),(12,.own 7)]) (fun s=>[.box (q7_ m).cells,.box (q7_ (runP m l).1).cells,.box (q7_ rr.1).cells,.row 4 (s.2.1.pipes.map qk_),.row 5 (qo_ s.2.2.1 s.2.1.p),.pack s.2.2.1 (q3_ s.2.1.p),.box [.sl qh_ s.2.1.g,.sl qq_ s.2.1.f,.own 3,.own 4,.sl qd_ s.2.1.sunk],.row 1 (s.2.2.2.map intV)]) (fun s=>s.1≤l.length∧xi_ (l.take s.1) m []=(s.2.1,s.2.2.2)∧IR s.2.1∧s.2.1.p.length=m.p.length) (fun s=>l.length-s.1) (0,m,Q0,[]) ?_
  conv=>whnf
  refine ⟨(by (refine qf_ [some 0,some 1,some 2,some 3,some 4,some 5,some 6,none] rfl rfl ?_ ?_<;>(repeat' first|exact True.intro|exact rfl|exact .inl rfl|exact .inr rfl|refine And.intro ?_ ?_|fail))),⟨Nat.zero_le _,rfl,ir_of (yk_ hc),rfl⟩,fun s hs=>?_⟩
  obtain ⟨k,M,Q,sd⟩:=s
  obtain ⟨hk,hgo,hIM,hpl⟩:=hs
  dsimp only at hk hgo hIM hpl
  repeat' first|(refine fun (b:Bool) hb=>?_;cases b<;>first|exact absurd hb (by decide)|exact nfl hb|exact nfr hb|skip)|refine ⟨_,rfl,?_,rfl,?_⟩|fail
  ·have hkl:k=l.length := by
    have h:=of_decide_eq_false (by assumption:decide ((k:Int)<(l.length:Int))=false)
    omega
   subst hkl
   rw [List.take_length] at hgo
   conv=>whnf
   refine ⟨(),?_,trivial⟩
   rw [hgo]
   exact (wk_fz 7 (k:=1) (enc:=intV) (l:=sd) rfl (LeL.refl _)).trans ((qdp_ 4 5 rfl rfl).trans ((wk_fz 3 (k:=4) (enc:=qk_) (l:=M.pipes) rfl (LeL.refl _)).trans ((wk_fz 4 (k:=5) (enc:=zf_) (l:=M.p) rfl (LeL.refl _)).trans (by (refine qf_ [some 0,some 1,some 2,some 3,some 4,some 5,some 6] rfl rfl ?_ ?_<;>(repeat' first|exact True.intro|exact rfl|exact .inl rfl|exact .inr rfl|refine And.intro ?_ ?_|fail))))))
  ·have h:=of_decide_eq_true (by assumption:decide ((k:Int)<(l.length:Int))=true)
   show k<l.length
   omega
  have hk2:k<l.length:=by
   have h:=of_decide_eq_true (by assumption:decide ((k:Int)<(l.length:Int))=true)
   omega
  have hnx:xi_ (l.take (k+1)) m []=((zn_ M l[k]).1,sd++[(zn_ M l[k]).2]):=by
   rw [List.take_succ_eq_append_getElem hk2,qdh_,hgo]
  conv=>whnf
  refine ql_ [2,5,6,7,8,9,11,12,58,59,60] (σ:=Loc) (fun _=>[(15,.int .i64 (zn_ M l[k]).2)]) (fun Q'=>[.box (q7_ m).cells,.box (q7_ (runP m l).1).cells,.box (q7_ rr.1).cells,.row 4 ((zn_ M l[k]).1.pipes.map qk_),.row 5 (qo_ Q' (zn_ M l[k]).1.p),.pack Q' (q3_ (zn_ M l[k]).1.p),.box [.sl qh_ (zn_ M l[k]).1.g,.sl qq_ (zn_ M l[k]).1.f,.own 3,.own 4,.sl qd_ (zn_ M l[k]).1.sunk],.row 1 (sd.map intV)]) (fun _=>True) ?_
  conv=>whnf
  refine ⟨?_,fun Q' _=>?_⟩
  ·have hout:¬ (0≤l[k]∧l[k]<(M.p.length:Int))→zn_ M l[k]=(M,5):=fun h=>by unfold zn_;rw [if_neg h]
   conv=>whnf
   repeat' first|(refine fun (b:Bool) hb=>?_;cases b<;>first|exact absurd hb (by decide)|exact nfl hb|exact nfr hb|skip)|(refine fun (hl:_≤MAXL)=>?_)|fail
   ·have hp:=hout (fun h=>of_decide_eq_false (by assumption:decide (0≤l[k])=false) h.1)
    conv=>whnf
    rw [hp]
    exact ⟨Q,(by (refine qf_ [some 0,some 1,some 2,some 3,some 4,some 5,some 6,some 7] rfl rfl ?_ ?_<;>(repeat' first|exact True.intro|exact rfl|exact .inl rfl|exact .inr rfl|refine And.intro ?_ ?_|fail))),trivial⟩
   ·have hp := hout (fun h => by
     have h2:=of_decide_eq_false (by assumption:decide (l[k]<(m.p.length:Int))=false)
     rw [hpl] at h
     exact h2 h.2)
    conv=>whnf
    rw [hp]
    exact ⟨Q,(by (refine qf_ [some 0,some 1,some 2,some 3,some 4,some 5,some 6,some 7] rfl rfl ?_ ?_<;>(repeat' first|exact True.intro|exact rfl|exact .inl rfl|exact .inr rfl|refine And.intro ?_ ?_|fail))),trivial⟩
   ·have h1:=of_decide_eq_true (by assumption:decide (0≤l[k])=true)
    have h2:=of_decide_eq_true (by assumption:decide (l[k]<(m.p.length:Int))=true)
    obtain ⟨i,hi⟩:∃ i:Nat,l[k]=i:=⟨l[k].toNat,by omega⟩
    have hiM:i<M.p.length:=by omega
    have hp:zn_ M l[k]=qv_ M i:=by
     unfold zn_
     rw [if_pos ⟨h1,by omega⟩,hi]
     rfl
    obtain ⟨hFo,hZo,-⟩:=qam_ M hIM i hiM
    conv=>whnf
    refine ⟨M,i,6,3,4,5,Q,?_,rfl,rfl,rfl,rfl,hFo,hZo,fun Q'=>?_⟩
    ·show [V.ptr 6 0 0,V.int .i64 l[k]]=_
     rw [hi]
    conv=>whnf
    rw [hp]
    exact ⟨Q',(by (refine qf_ [some 0,some 1,some 2,some 3,some 4,some 5,some 6,some 7] rfl rfl ?_ ?_<;>(repeat' first|exact True.intro|exact rfl|exact .inl rfl|exact .inr rfl|refine And.intro ?_ ?_|fail))),trivial⟩
  have hIn:IR (zn_ M l[k]).1∧(zn_ M l[k]).1.p.length=m.p.length:=by
   unfold zn_
   split
   ·rename_i h
    exact ⟨(qam_ M hIM _ (by omega)).2.2,(qf9_ M _ (by omega)).trans hpl⟩
   ·exact ⟨hIM,hpl⟩
  have hsl:sd.length=k:=by
   have:=qfv_ (l.take k) m []
   rw [hgo,List.length_take] at this
   simp at this
   omega
  conv=>whnf
  repeat' first|refine And.intro (a:=I64 _) ?_ ?_|refine And.intro (a:=_≤140737488355328) ?_ ?_|refine ⟨rfl,?_⟩|fail
  ·show ((sd.map intV).length+1)*8≤140737488355328
   rw [List.length_map]
   omega
  ·show I64 ((k:Int)+1)
   unfold I64;omega
  refine ⟨(k+1,(zn_ M l[k]).1,Q',sd++[(zn_ M l[k]).2]),?_,⟨hk2,hnx,hIn.1,hIn.2⟩,by show l.length-(k+1)<l.length-k;omega⟩
  show Wk _ _ _ _ [.box (q7_ m).cells,.box (q7_ (runP m l).1).cells,.box (q7_ rr.1).cells,.row 4 ((zn_ M l[k]).1.pipes.map qk_),.row 5 (qo_ Q' (zn_ M l[k]).1.p),.pack Q' (q3_ (zn_ M l[k]).1.p),.box [.sl qh_ (zn_ M l[k]).1.g,.sl qq_ (zn_ M l[k]).1.f,.own 3,.own 4,.sl qd_ (zn_ M l[k]).1.sunk],.row 1 ((sd++[(zn_ M l[k]).2]).map intV)]
  rw [List.map_append]
  exact (by (refine qf_ [some 0,some 1,some 2,some 3,some 4,some 5,some 6,some 9] rfl rfl ?_ ?_<;>(repeat' first|exact True.intro|exact rfl|exact .inl rfl|exact .inr rfl|refine And.intro ?_ ?_|fail)))
 conv=>whnf
 refine ql_ [2,8,9] (σ:=Unit) (fun _=>[]) (fun _=>[.box (q7_ m).cells,.box (q7_ (runP m l).1).cells,.box (q7_ rr.1).cells]) (fun _=>True) ?_
 conv=>whnf
 refine ⟨?_,fun _ _=>?_⟩
 ·have q1:(runP m l).2.2=0:=by rw [hrun]
  have q2:(runP m l).2.1=(xi_ l m []).2:=by rw [hrun]
  have q3:(runP m l).1=(xi_ l m []).1:=by rw [hrun]
  conv=>whnf
  repeat' first|(refine fun (b:Bool) hb=>?_;cases b<;>first|exact absurd hb (by decide)|exact nfl hb|exact nfr hb|skip)|fail
  rotate_left
  ·exact absurd q1 (by simpa using ‹(!decide ((runP m l).2.2=0))=true›)
  conv=>whnf
  refine ⟨(runP m l).2.1,(xi_ l m []).2,rfl,?_⟩
  repeat' first|(refine fun (b:Bool) hb=>?_;cases b<;>first|exact absurd hb (by decide)|exact nfl hb|exact nfr hb|skip)|fail
  rotate_left
  ·exact absurd q2 (by simpa using ‹(!decide ((runP m l).2.1=(xi_ l m []).2))=true›)
  conv=>whnf
  refine ⟨(runP m l).1,(xi_ l m []).1,rfl,?_⟩
  repeat' first|(refine fun (b:Bool) hb=>?_;cases b<;>first|exact absurd hb (by decide)|exact nfl hb|exact nfr hb|skip)|fail
  rotate_left
  ·exact absurd ‹(!qnd_ (runP m l).1 (xi_ l m []).1)=true› (by rw [sameMB_iff.2 q3];decide)
  conv=>whnf
  exact ⟨(),(by (refine qf_ [some 0,some 1,some 2] rfl rfl ?_ ?_<;>(repeat' first|exact True.intro|exact rfl|exact .inl rfl|exact .inr rfl|refine And.intro ?_ ?_|fail))),trivial⟩
 conv=>whnf
 refine ⟨m,rfl,hz,fun Q1=>?_⟩
 conv=>whnf
 obtain ⟨-,-,-,hFin⟩:=hF.1 hc
 refine ql_ [8,9,16] (σ:=MachS) (fun _=>[(17,.int .i64 rr.2)]) (fun M=>[.box (q7_ m).cells,.box (q7_ (runP m l).1).cells,.box (q7_ rr.1).cells,.dead,.dead,.dead,.box (q7_ M).cells]) (fun M=>rr.2=0→M=rr.1) ?_
 conv=>whnf
 refine ⟨?_,fun M hM=>?_⟩
 ·conv=>whnf
  refine qg_ [0] (σ:=Nat × MachS × Loc) (fun s=>[]) (fun s=>[.box (q7_ m).cells,.box (q7_ (runP m l).1).cells,.box (q7_ rr.1).cells,.row 4 (s.2.1.pipes.map qk_),.row 5 (qo_ s.2.2 s.2.1.p),.pack s.2.2 (q3_ s.2.1.p),.box [.sl qh_ s.2.1.g,.sl qq_ s.2.1.f,.own 3,.own 4,.sl qd_ s.2.1.sunk]]) (fun s=>FinN s.1 s.2.1 rr∧IR s.2.1) (fun s=>s.1) (n,m,Q1) ?_
  conv=>whnf
  refine ⟨(by (refine qf_ [some 0,some 1,some 2,some 3,some 4,some 5,some 6] rfl rfl ?_ ?_<;>(repeat' first|exact True.intro|exact rfl|exact .inl rfl|exact .inr rfl|refine And.intro ?_ ?_|fail))),⟨hFin,ir_of (yk_ hc)⟩,fun s hs=>?_⟩
  obtain ⟨n2,M,Q⟩:=s
  obtain ⟨hFM,hIM⟩:=hs
  dsimp only at hFM hIM
  conv=>whnf
  repeat' first|(refine fun (hl:_≤MAXL)=>?_)|fail
  refine qg_ [0,10] (σ:=Nat × MachS × Loc × Nat × Nat) (fun s=>[(3,.int .i64 s.2.2.2.1),(4,.int .i64 s.2.2.2.2),(11,.int .i64 s.1)]) (fun s=>[.box (q7_ m).cells,.box (q7_ (runP m l).1).cells,.box (q7_ rr.1).cells,.row 4 (s.2.1.pipes.map qk_),.row 5 (qo_ s.2.2.1 s.2.1.p),.pack s.2.2.1 (q3_ s.2.1.p),.box [.sl qh_ s.2.1.g,.sl qq_ s.2.1.f,.own 3,.own 4,.sl qd_ s.2.1.sunk]]) (fun s=>s.1≤M.p.length∧wy_ ((List.range M.p.length).drop s.1) (s.2.1,decide (s.2.2.2.1=0),decide (0<s.2.2.2.2))=rnd M∧IR s.2.1∧s.2.1.p.length=M.p.length∧s.2.2.2.1≤s.1∧s.2.2.2.2≤s.1) (fun s=>M.p.length-s.1) (0,M,Q,0,0) ?_
  conv=>whnf
  refine ⟨(by (refine qf_ [some 0,some 1,some 2,some 3,some 4,some 5,some 6] rfl rfl ?_ ?_<;>(repeat' first|exact True.intro|exact rfl|exact .inl rfl|exact .inr rfl|refine And.intro ?_ ?_|fail))),⟨Nat.zero_le _,rfl,hIM,rfl,Nat.le_refl _,Nat.le_refl _⟩,fun s hs=>?_⟩
  obtain ⟨k,N,Q2,lf,wn⟩:=s
  obtain ⟨hk,hgo,hIN,hNl,hlf,hwn⟩:=hs
  dsimp only at hk hgo hIN hNl hlf hwn
  have hend:decide ((k:Int)<((qo_ Q M.p).length:Int))=false→rnd M=(N,decide (lf=0),decide (0<wn)):=fun h=>by
   have h:=of_decide_eq_false h
   rw [q8_] at h
   rw [←hgo,List.drop_eq_nil_of_le (by rw [List.length_range];omega)]
   rfl
  conv=>whnf
  repeat' first|(refine fun (b:Bool) hb=>?_;cases b<;>first|exact absurd hb (by decide)|exact nfl hb|exact nfr hb|skip)|fail
  ·have he:=hend (by assumption)
   have h1:¬ ((lf:Int)=0):=of_decide_eq_false (by assumption)
   have h2:¬ ((wn:Int)=0):=of_decide_eq_false (by assumption)
   obtain ⟨n3,rfl,hF3⟩:=q42_ hFM (by rw [he];exact decide_eq_false (by omega)) (by rw [he];exact decide_eq_true (by omega))
   rw [he] at hF3
   conv=>whnf
   exact ⟨(n3,N,Q2),(by (refine qf_ [some 0,some 1,some 2,some 3,some 4,some 5,some 6] rfl rfl ?_ ?_<;>(repeat' first|exact True.intro|exact rfl|exact .inl rfl|exact .inr rfl|refine And.intro ?_ ?_|fail))),⟨hF3,hIN⟩,Nat.lt_succ_self n3⟩
  ·have he:=hend (by assumption)
   have h1:¬ ((lf:Int)=0):=of_decide_eq_false (by assumption)
   have h2:(wn:Int)=0:=of_decide_eq_true (by assumption)
   have hr:=qza_ hFM (by rw [he];exact decide_eq_false (by omega)) (by rw [he];exact decide_eq_false (by omega))
   conv=>whnf
   refine ⟨N,?_,fun h=>?_⟩
   ·have e:rr.2=8:=by rw [hr]
    rw [e]
    exact (qdp_ 4 5 rfl rfl).trans ((wk_fz 3 (k:=4) (enc:=qk_) (l:=N.pipes) rfl (LeL.refl _)).trans ((wk_fz 4 (k:=5) (enc:=zf_) (l:=N.p) rfl (LeL.refl _)).trans (by (refine qf_ [some 0,some 1,some 2,some 3,some 4,some 5,some 6] rfl rfl ?_ ?_<;>(repeat' first|exact True.intro|exact rfl|exact .inl rfl|exact .inr rfl|refine And.intro ?_ ?_|fail)))))
   ·rw [hr] at h
    exact absurd h (by decide)
  ·have he:=hend (by assumption)
   have h1:(lf:Int)=0:=of_decide_eq_true (by assumption)
   have hr:=q43_ hFM (by rw [he];exact decide_eq_true (by omega))
   rw [he] at hr
   conv=>whnf
   refine ⟨N,?_,fun h=>?_⟩
   ·have e:rr.2=0:=by rw [hr]
    rw [e]
    exact (qdp_ 4 5 rfl rfl).trans ((wk_fz 3 (k:=4) (enc:=qk_) (l:=N.pipes) rfl (LeL.refl _)).trans ((wk_fz 4 (k:=5) (enc:=zf_) (l:=N.p) rfl (LeL.refl _)).trans (by (refine qf_ [some 0,some 1,some 2,some 3,some 4,some 5,some 6] rfl rfl ?_ ?_<;>(repeat' first|exact True.intro|exact rfl|exact .inl rfl|exact .inr rfl|refine And.intro ?_ ?_|fail)))))
   ·rw [hr]
  have hk2:k<M.p.length:=by
   have h:=of_decide_eq_true (by assumption:decide ((k:Int)<((qo_ Q M.p).length:Int))=true)
   rw [q8_] at h
   omega
  have hkN:k<N.p.length:=by omega
  obtain ⟨hFo,hZo,hIo⟩:=qam_ N hIN k hkN
  have hdr:(List.range M.p.length).drop k=k::(List.range M.p.length).drop (k+1):=by
   rw [List.drop_eq_getElem_cons (by rw [List.length_range];exact hk2),List.getElem_range]
  rw [hdr,wy_] at hgo
  dsimp only at hgo
  have hNl2:=qf9_ N k hkN
  conv=>whnf
  refine ⟨N,k,6,3,4,5,Q2,rfl,rfl,rfl,rfl,rfl,hFo,hZo,fun Q3=>?_⟩
  have hpat:(qo_ Q3 (qv_ N k).1.p)[k]?=some (vy_ Q3 k (pr (qv_ N k).1 k)):=vz_ (by rw [pr_at (by omega)];exact List.getElem?_eq_getElem _)
  have hMM:(qo_ Q M.p).length≤MAXL:=by assumption
  rw [q8_] at hMM
  have hI1:I64 ((k:Int)+1):=by unfold MAXL at hMM;unfold I64;omega
  have hI2:I64 ((lf:Int)+1):=by unfold MAXL at hMM;unfold I64;omega
  have hI3:I64 ((wn:Int)+1):=by unfold MAXL at hMM;unfold I64;omega
  have hG:∀ lf' wn':Nat,decide (lf'=0)=(decide (lf=0) && (pr (qv_ N k).1 k).over)→decide (0<wn')=(decide ((qv_ N k).2=0) || decide (0<wn))→wy_ ((List.range M.p.length).drop (k+1)) ((qv_ N k).1,decide (lf'=0),decide (0<wn'))=rnd M:=fun lf' wn' h1 h2=>by
   rw [h1,h2]
   exact hgo
  have hm:M.p.length-(k+1)<M.p.length-k:=by omega
  conv=>whnf
  repeat' first|(refine fun (b:Bool) hb=>?_;cases b<;>first|exact absurd hb (by decide)|exact nfl hb|exact nfr hb|skip)|refine And.intro (a:=I64 _) ?_ ?_|refine ⟨rfl,?_⟩|fail
  ·have hc0:decide ((qv_ N k).2=0)=false:=by assumption
   refine ⟨k,rfl,by rw [q8_];omega,?_⟩
   conv=>whnf
   refine ⟨_,hpat,?_⟩
   conv=>whnf
   repeat' first|(refine fun (b:Bool) hb=>?_;cases b<;>first|exact absurd hb (by decide)|exact nfl hb|exact nfr hb|skip)|refine And.intro (a:=I64 _) ?_ ?_|fail
   ·exact hI1
   ·have hov:(pr (qv_ N k).1 k).over=true:=by simpa using ‹(!(pr (qv_ N k).1 k).over)=false›
    conv=>whnf
    exact ⟨(k+1,(qv_ N k).1,Q3,lf,wn),(by (refine qf_ [some 0,some 1,some 2,some 3,some 4,some 5,some 6] rfl rfl ?_ ?_<;>(repeat' first|exact True.intro|exact rfl|exact .inl rfl|exact .inr rfl|refine And.intro ?_ ?_|fail))),⟨hk2,hG (lf) (wn) (by rw [hov,Bool.and_true]) (by rw [hc0,Bool.false_or]),hIo,hNl2.trans hNl,by show lf≤k+1;omega,by show wn≤k+1;omega⟩,hm⟩
   ·exact hI2
   ·exact hI1
   ·have hov:(pr (qv_ N k).1 k).over=false:=by simpa using ‹(!(pr (qv_ N k).1 k).over)=true›
    conv=>whnf
    exact ⟨(k+1,(qv_ N k).1,Q3,lf+1,wn),(by (refine qf_ [some 0,some 1,some 2,some 3,some 4,some 5,some 6] rfl rfl ?_ ?_<;>(repeat' first|exact True.intro|exact rfl|exact .inl rfl|exact .inr rfl|refine And.intro ?_ ?_|fail))),⟨hk2,hG (lf+1) (wn) (by rw [hov,Bool.and_false];exact decide_eq_false (by omega)) (by rw [hc0,Bool.false_or]),hIo,hNl2.trans hNl,by show lf+1≤k+1;omega,by show wn≤k+1;omega⟩,hm⟩
  ·exact hI3
  ·have hc0:decide ((qv_ N k).2=0)=true:=by assumption
   refine ⟨k,rfl,by rw [q8_];omega,?_⟩
   conv=>whnf
   refine ⟨_,hpat,?_⟩
   conv=>whnf
   repeat' first|(refine fun (b:Bool) hb=>?_;cases b<;>first|exact absurd hb (by decide)|exact nfl hb|exact nfr hb|skip)|refine And.intro (a:=I64 _) ?_ ?_|fail
   ·exact hI1
   ·have hov:(pr (qv_ N k).1 k).over=true:=by simpa using ‹(!(pr (qv_ N k).1 k).over)=false›
    conv=>whnf
    exact ⟨(k+1,(qv_ N k).1,Q3,lf,wn+1),(by (refine qf_ [some 0,some 1,some 2,some 3,some 4,some 5,some 6] rfl rfl ?_ ?_<;>(repeat' first|exact True.intro|exact rfl|exact .inl rfl|exact .inr rfl|refine And.intro ?_ ?_|fail))),⟨hk2,hG (lf) (wn+1) (by rw [hov,Bool.and_true]) (by rw [hc0,Bool.true_or];exact decide_eq_true (by omega)),hIo,hNl2.trans hNl,by show lf≤k+1;omega,by show wn+1≤k+1;omega⟩,hm⟩
   ·exact hI2
   ·exact hI1
   ·have hov:(pr (qv_ N k).1 k).over=false:=by simpa using ‹(!(pr (qv_ N k).1 k).over)=true›
    conv=>whnf
    exact ⟨(k+1,(qv_ N k).1,Q3,lf+1,wn+1),(by (refine qf_ [some 0,some 1,some 2,some 3,some 4,some 5,some 6] rfl rfl ?_ ?_<;>(repeat' first|exact True.intro|exact rfl|exact .inl rfl|exact .inr rfl|refine And.intro ?_ ?_|fail))),⟨hk2,hG (lf+1) (wn+1) (by rw [hov,Bool.and_false];exact decide_eq_false (by omega)) (by rw [hc0,Bool.true_or];exact decide_eq_true (by omega)),hIo,hNl2.trans hNl,by show lf+1≤k+1;omega,by show wn+1≤k+1;omega⟩,hm⟩
 conv=>whnf
 repeat' first|(refine fun (b:Bool) hb=>?_;cases b<;>first|exact absurd hb (by decide)|exact nfl hb|exact nfr hb|skip)|fail
 ·exact absurd (by simpa using ‹(!decide (rr.2=0))=false›:rr.2=0) (of_decide_eq_false (by assumption))
 ·have h:rr.2=0:=of_decide_eq_true (by assumption)
  have hM:=hM h
  conv=>whnf
  refine ⟨rr.1,M,rfl,?_⟩
  skip
  refine hK _ ?_
  rw [hM,sameMB_iff.2 rfl]
 ·exact absurd ‹decide (rr.2=rr.2)=false› (by simp)
 have h:rr.2≠0:=by simpa using ‹(!decide (rr.2=0))=true›
 have hz2:=q9p_ hFin h
 conv=>whnf
 refine ⟨Gp.Node,qh_,?_⟩
 refine ⟨FileS,qq_,?_⟩
 refine ⟨PipeS,qk_,?_⟩
 refine ⟨ProcS,zf_,?_⟩
 refine ⟨UInt8,qd_,?_⟩
 refine ⟨rr.1,zM,rfl,?_⟩
 skip
 refine hK _ ?_
 rw [hz2,sameMB_iff.2 rfl]
end Gv
namespace Gv
variable [Glob] [Laid]
theorem zap_:Opn Tryz.prog 38 cmdV (fun _=>True):=⟨fun en w fuel cs d p h hw=>by
 have hl:cs.length=3:=(yp_ Tryz.underlying38 h).trans (by kernel_rfl)
 obtain ⟨k,_,f1⟩:=q2_ 0 0 1 (T:=3) Tryz.underlying38 rfl rfl rfl (by kernel_rfl) (opn_int Tryz.underlying3) h hw
 obtain ⟨s,_,f2⟩:=q2_ 1 1 1 (T:=9) Tryz.underlying38 rfl rfl rfl (by kernel_rfl) (qju_ Tryz.underlying9) h hw
 obtain ⟨n,_,f3⟩:=q2_ 2 2 1 (T:=3) Tryz.underlying38 rfl rfl rfl (by kernel_rfl) (opn_int Tryz.underlying3) h hw
 have:=Fit.cons 0 1 f1 rfl (Fit.cons 1 2 f2 rfl (Fit.cons 2 3 f3 rfl (Fit.last 3 hl)))
 rw [List.drop_zero] at this
 exact ⟨⟨k,s,n⟩,trivial,this⟩⟩
end Gv
namespace Gv
variable [Glob] [Laid]
theorem q54_:Opn Tryz.prog 47 ww_ (fun _=>True):=⟨fun en w fuel cs d p h hw=>by
 have hl:cs.length=2:=(yp_ Tryz.underlying47 h).trans (by kernel_rfl)
 obtain ⟨k,_,f1⟩:=q2_ 0 0 1 (T:=3) Tryz.underlying47 rfl rfl rfl (by kernel_rfl) (opn_int Tryz.underlying3) h hw
 obtain ⟨n,_,f3⟩:=q2_ 1 1 1 (T:=3) Tryz.underlying47 rfl rfl rfl (by kernel_rfl) (opn_int Tryz.underlying3) h hw
 have:=Fit.cons 0 1 f1 rfl (Fit.cons 1 2 f3 rfl (Fit.last 2 hl))
 rw [List.drop_zero] at this
 exact ⟨⟨k,n⟩,trivial,this⟩⟩
end Gv
namespace Gv
variable [Glob] [Laid]
theorem qca_:Opn Tryz.prog 28 blV (fun l=>(∀ x∈l,True)∧l.length*(Tryz.prog).bytesOf 5≤reachBytes):=opn_slice (k:=1) Tryz.underlying28 (by kernel_rfl) (by omega) (qsx_ Tryz.underlying5)
end Gv
namespace Gv
variable [Glob] [Laid]
theorem qq1_ {P:Program} {e:TypeId} {n k:Nat} (hb:P.bytesOf e=k) (h:n*P.bytesOf e≤reachBytes):n*k≤140737488355328:=by
 rw [hb] at h
 exact Nat.le_trans h (by decide)
theorem qry_ {l:Bs} (h:(∀ x∈l,True)∧l.length*(Tryz.prog).bytesOf 5≤reachBytes):l.length≤140737488355328:=by
 have:=qq1_ (k:=1) (by kernel_rfl) h.2
 omega
theorem zc1_ {l:List Bs} (h:(∀ b∈l,(∀ x∈b,True)∧b.length*(Tryz.prog).bytesOf 5≤reachBytes)∧l.length*(Tryz.prog).bytesOf 28≤reachBytes):l.length*24≤140737488355328∧∀ b∈l,b.length≤140737488355328 :=
 ⟨qq1_ (k:=24) (by kernel_rfl) h.2,fun b hb=>qry_ (h.1 b hb)⟩
theorem q07_:Opn Tryz.prog 41 qh_ (fun n=>n.ins.length*16≤140737488355328):=⟨fun en w fuel cs d p h hw=>by
 have hl:cs.length=8:=(yp_ Tryz.underlying41 h).trans (by kernel_rfl)
 obtain ⟨k,_,f1⟩:=q2_ 0 0 1 (T:=3) Tryz.underlying41 rfl rfl rfl (by kernel_rfl) (opn_int Tryz.underlying3) h hw
 obtain ⟨s,_,f2⟩:=q2_ 1 1 1 (T:=9) Tryz.underlying41 rfl rfl rfl (by kernel_rfl) (qju_ Tryz.underlying9) h hw
 obtain ⟨c,_,f3⟩:=q2_ 2 2 3 (T:=38) Tryz.underlying41 rfl rfl rfl (by kernel_rfl) zap_ h hw
 obtain ⟨ho,_,f4⟩:=q2_ 3 5 1 (T:=3) Tryz.underlying41 rfl rfl rfl (by kernel_rfl) (opn_int Tryz.underlying3) h hw
 obtain ⟨wi,_,f5⟩:=q2_ 4 6 1 (T:=3) Tryz.underlying41 rfl rfl rfl (by kernel_rfl) (opn_int Tryz.underlying3) h hw
 obtain ⟨n,hn,f6⟩:=q2_ 5 7 1 (T:=39) Tryz.underlying41 rfl rfl rfl (by kernel_rfl) (opn_slice (k:=2) Tryz.underlying39 (by kernel_rfl) (by omega) q54_) h hw
 have:=Fit.cons 0 1 f1 rfl (Fit.cons 1 2 f2 rfl (Fit.cons 2 5 f3 rfl (Fit.cons 5 6 f4 rfl (Fit.cons 6 7 f5 rfl (Fit.cons 7 8 f6 rfl (Fit.last 8 hl))))))
 rw [List.drop_zero] at this
 exact ⟨⟨k,s,c,ho,wi,n⟩,qq1_ (k:=16) (by kernel_rfl) hn.2,this⟩⟩
theorem qv6_:Opn Tryz.prog 24 (fun N:List Gp.Node=>.agg [.sl qh_ N]) (fun N=>N.length*96≤140737488355328∧∀ n∈N,n.ins.length*16≤140737488355328):=⟨fun en w fuel cs d p h hw=>by
 have hl:cs.length=1:=(yp_ Tryz.underlying24 h).trans (by kernel_rfl)
 obtain ⟨k,hk,f1⟩:=q2_ 0 0 1 (T:=22) Tryz.underlying24 rfl rfl rfl (by kernel_rfl) (opn_slice (k:=8) Tryz.underlying22 (by kernel_rfl) (by omega) q07_) h hw
 have:=Fit.cons 0 1 f1 rfl (Fit.last 1 hl)
 rw [List.drop_zero] at this
 exact ⟨k,⟨qq1_ (k:=96) (by kernel_rfl) hk.2,hk.1⟩,this⟩⟩
theorem q06_:Opn Tryz.prog 56 qq_ (fun f=>f.b.length≤140737488355328):=⟨fun en w fuel cs d p h hw=>by
 have hl:cs.length=2:=(yp_ Tryz.underlying56 h).trans (by kernel_rfl)
 obtain ⟨k,_,f1⟩:=q2_ 0 0 1 (T:=9) Tryz.underlying56 rfl rfl rfl (by kernel_rfl) (qju_ Tryz.underlying9) h hw
 obtain ⟨n,hn,f3⟩:=q2_ 1 1 1 (T:=28) Tryz.underlying56 rfl rfl rfl (by kernel_rfl) (opn_slice (k:=1) Tryz.underlying28 (by kernel_rfl) (by omega) (qsx_ Tryz.underlying5)) h hw
 have:=Fit.cons 0 1 f1 rfl (Fit.cons 1 2 f3 rfl (Fit.last 2 hl))
 rw [List.drop_zero] at this
 exact ⟨⟨k,n⟩,qry_ hn,this⟩⟩
theorem q08_:Opn Tryz.prog 50 qk_ (fun p=>p.b.length≤140737488355328):=⟨fun en w fuel cs d p h hw=>by
 have hl:cs.length=4:=(yp_ Tryz.underlying50 h).trans (by kernel_rfl)
 obtain ⟨b,hb,f1⟩:=q2_ 0 0 1 (T:=28) Tryz.underlying50 rfl rfl rfl (by kernel_rfl) qca_ h hw
 obtain ⟨n,_,f2⟩:=q2_ 1 1 1 (T:=3) Tryz.underlying50 rfl rfl rfl (by kernel_rfl) (opn_int Tryz.underlying3) h hw
 obtain ⟨c,_,f3⟩:=q2_ 2 2 1 (T:=4) Tryz.underlying50 rfl rfl rfl (by kernel_rfl) (qei_ Tryz.underlying4) h hw
 obtain ⟨s,_,f4⟩:=q2_ 3 3 1 (T:=4) Tryz.underlying50 rfl rfl rfl (by kernel_rfl) (qei_ Tryz.underlying4) h hw
 have:=Fit.cons 0 1 f1 rfl (Fit.cons 1 2 f2 rfl (Fit.cons 2 3 f3 rfl (Fit.cons 3 4 f4 rfl (Fit.last 4 hl))))
 rw [List.drop_zero] at this
 exact ⟨⟨b,n,c,s⟩,qry_ hb,this⟩⟩
theorem q09_:Opn Tryz.prog 44 zf_ (fun p=>(p.got.length*24≤140737488355328∧∀ b∈p.got,b.length≤140737488355328)∧(p.out.length*24≤140737488355328∧∀ b∈p.out,b.length≤140737488355328)):=⟨fun en w fuel cs d p h hw=>by
 have hl:cs.length=5:=(yp_ Tryz.underlying44 h).trans (by kernel_rfl)
 obtain ⟨g,hg,f1⟩:=q2_ 0 0 1 (T:=42) Tryz.underlying44 rfl rfl rfl (by kernel_rfl) (opn_slice (k:=1) Tryz.underlying42 (by kernel_rfl) (by omega) qca_) h hw
 obtain ⟨n,_,f2⟩:=q2_ 1 1 1 (T:=3) Tryz.underlying44 rfl rfl rfl (by kernel_rfl) (opn_int Tryz.underlying3) h hw
 obtain ⟨o,ho,f3⟩:=q2_ 2 2 1 (T:=42) Tryz.underlying44 rfl rfl rfl (by kernel_rfl) (opn_slice (k:=1) Tryz.underlying42 (by kernel_rfl) (by omega) qca_) h hw
 obtain ⟨r,_,f4⟩:=q2_ 3 3 1 (T:=4) Tryz.underlying44 rfl rfl rfl (by kernel_rfl) (qei_ Tryz.underlying4) h hw
 obtain ⟨s,_,f5⟩:=q2_ 4 4 1 (T:=4) Tryz.underlying44 rfl rfl rfl (by kernel_rfl) (qei_ Tryz.underlying4) h hw
 have:=Fit.cons 0 1 f1 rfl (Fit.cons 1 2 f2 rfl (Fit.cons 2 3 f3 rfl (Fit.cons 3 4 f4 rfl (Fit.cons 4 5 f5 rfl (Fit.last 5 hl)))))
 rw [List.drop_zero] at this
 exact ⟨⟨g,n,o,r,s⟩,⟨zc1_ hg,zc1_ ho⟩,this⟩⟩
theorem opn_machZ:Opn Tryz.prog 30 q7_ ownZ:=⟨fun en w fuel cs d p h hw=>by
 have hl:cs.length=5:=(yp_ Tryz.underlying30 h).trans (by kernel_rfl)
 obtain ⟨g,zg,f1⟩:=q2_ 0 0 1 (T:=24) Tryz.underlying30 rfl rfl rfl (by kernel_rfl) qv6_ h hw
 obtain ⟨f,zf,f2⟩:=q2_ 1 1 1 (T:=25) Tryz.underlying30 rfl rfl rfl (by kernel_rfl) (opn_slice (k:=2) Tryz.underlying25 (by kernel_rfl) (by omega) q06_) h hw
 obtain ⟨q,zq,f3⟩:=q2_ 2 2 1 (T:=26) Tryz.underlying30 rfl rfl rfl (by kernel_rfl) (opn_slice (k:=4) Tryz.underlying26 (by kernel_rfl) (by omega) q08_) h hw
 obtain ⟨o,zo,f4⟩:=q2_ 3 3 1 (T:=27) Tryz.underlying30 rfl rfl rfl (by kernel_rfl) (opn_slice (k:=5) Tryz.underlying27 (by kernel_rfl) (by omega) q09_) h hw
 obtain ⟨s,zs,f5⟩:=q2_ 4 4 1 (T:=28) Tryz.underlying30 rfl rfl rfl (by kernel_rfl) qca_ h hw
 have:=Fit.cons 0 1 f1 rfl (Fit.cons 1 2 f2 rfl (Fit.cons 2 3 f3 rfl (Fit.cons 3 4 f4 rfl (Fit.cons 4 5 f5 rfl (Fit.last 5 hl)))))
 rw [List.drop_zero] at this
 exact ⟨⟨g,f,q,o,s⟩,⟨zg,⟨qq1_ (k:=40) (by kernel_rfl) zf.2,zf.1⟩,qry_ zs,⟨qq1_ (k:=40) (by kernel_rfl) zq.2,zq.1⟩,qq1_ (k:=64) (by kernel_rfl) zo.2,zo.1⟩,this⟩⟩
end Gv
namespace Gv
variable [Glob] [Laid] [Nums] [Errs]
theorem xRunsT_ok:Pure Tryz.prog 10 q3q_:=q71_
end Gv
