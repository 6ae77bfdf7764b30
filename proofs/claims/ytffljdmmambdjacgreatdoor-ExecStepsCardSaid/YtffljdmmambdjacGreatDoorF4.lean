/- What functions of the program come to, part 4: in every world; the conditions stand in each theorem. -/
import Derived.Test.YtffljdmmambdjacGreatDoorF3
set_option linter.unusedVariables false
set_option linter.unusedSectionVars false
set_option linter.unusedSimpArgs false
set_option maxHeartbeats 16000000
open Go Go.Proofs Gw Gp
namespace Gv
variable [Glob] [Laid] [Errs] [Nums]
theorem qja_:callable Tryz.prog 159=true:=by kernel_rfl
def joinedR_S:Spec:=fun args K=>∃ (h:Int) (c:Cmd) (p:List Bs),args=[.int .i64 h,cmdV c,.sl blV p]∧((h=4→checkCmd c=0)∧p.length≤5∧p.flatten.length≤500000000)∧K (.sl byteV (jd h c p))
noncomputable def joinedR_lib:List (Nat × Spec):=[(89,linesOfR_S),(210,parseIS_S),(211,fmtI_S),(150,itoa_S),(88,madeR_S),(87,bytesOfR_S)]
noncomputable def joinedR_fns:List (Nat × FnI):=[]
noncomputable def joinedR_prims:List (Nat × PSpec):=[]
theorem qkw_:EnvOK ⟨Tryz.prog,tys,joinedR_lib,joinedR_fns,joinedR_prims,[]⟩:=qf_ mixed0 tys0 (.cons z4_ z5_ (.cons qj0_ qjf_ (.cons qsk_ qtu_ (.cons w9_ qba_ (.cons qdx_ qds_ (.cons xu_ xn_ .nil)))))) .nil .nil rfl
theorem qkc_:Pure Tryz.prog 159 joinedR_S:=by
 refine qe_ qkw_ 6 (fi:={fn:=Tryz.f159,hooks:=[13,32],draws:=[(10,[0,1,3,7,15,31,63,127,255,511,1023,2047,4095,2047,10239,26623,65535,131071]),(27,[0,0,0,0,12,28,62,126,1,511])]}) ⟨Tryz.func159,by kernel_rfl,by kernel_rfl⟩ ?_
 rintro _ K ⟨h,c,p,rfl,⟨hc4,h5,hfl⟩,hK⟩
 replace hK:∀ r,r=.sl byteV (jd h c p)→K r:=fun r h=>h ▸ hK
 have hpl:∀ b∈p,b.length≤500000000:=fun b hb=>Nat.le_trans (v7_ hb) hfl
 obtain ⟨P,hP⟩:∃ P,p.map linesOf=P:=⟨_,rfl⟩
 have hPl:P.length=p.length:=by rw [←hP,List.length_map]
 have hPi:∀ i (hi:i<p.length),P.getD i []=linesOf p[i]:=fun i hi=>by
  rw [←hP,List.getD_eq_getElem?_getD,List.getElem?_map,List.getElem?_eq_getElem hi]
  rfl
 skip
 conv=>whnf
 refine qd_ [0,2,4] (σ:=Unit) (fun _=>[(7,.own 1),(8,.int .i64 (sumN P P.length))]) (fun _=>[.box (cmdV c).cells,.row 1 (P.flatten.map strV)]) (fun _=>True) ?_
 conv=>whnf
 refine ⟨?_,fun _ _=>?_⟩
 ·repeat' first|(refine fun (hl:_≤MAXL)=>?_)|fail
  conv=>whnf
  refine qb_ [0,2,4,20,21] (σ:=Nat × List Bs × Int) (fun s=>[(22,.int .i64 s.1),(7,.own 1),(8,.int .i64 s.2.2)]) (fun s=>[.box (cmdV c).cells,.row 1 (s.2.1.map strV)]) (fun s=>s.1≤p.length∧s.2.1=(P.take s.1).flatten∧s.2.2=sumN P s.1) (fun s=>p.length-s.1) (0,[],0) ?_
  conv=>whnf
  refine ⟨(by (refine qa_ ?_;refine Sel4.mk rfl rfl ?_ ?_<;>(repeat' first|exact True.intro|exact rfl|exact .inl rfl|exact .inr rfl|refine And.intro ?_ ?_|fail))),⟨Nat.zero_le _,by simp,rfl⟩,fun s hs=>?_⟩
  obtain ⟨i,all,acc⟩:=s
  obtain ⟨hi,ha,hacc⟩:=hs
  dsimp only at hi ha hacc
  repeat' first|(refine fun (b:Bool) hb=>?_;cases b<;>first|exact absurd hb (by decide)|exact nfl hb|exact nfr hb|skip)|refine ⟨_,rfl,?_,rfl,?_⟩|fail
  ·have hge:¬ (i:Int)<(p.length:Int):=of_decide_eq_false (by assumption)
   have ei:i=P.length:=by omega
   have ea:all=P.flatten:=by rw [ha,ei,List.take_length]
   have ec:acc=sumN P P.length:=by rw [hacc,ei]
   subst ea
   subst ec
   exact ⟨(),(by (refine qa_ ?_;refine Sel4.mk rfl rfl ?_ ?_<;>(repeat' first|exact True.intro|exact rfl|exact .inl rfl|exact .inr rfl|refine And.intro ?_ ?_|fail))),trivial⟩
  ·have h:=of_decide_eq_true (by assumption:decide ((i:Int)<(p.length:Int))=true)
   show i<p.length
   omega
  have hlt:i<p.length:=by
   have h:=of_decide_eq_true (by assumption:decide ((i:Int)<(p.length:Int))=true)
   omega
  have hbl:=hpl _ (List.getElem_mem hlt)
  have hll:=q4_ p[i]
  have hnx:sumN P (i+1)=sumN P i+numH (linesOf p[i]):=by rw [sumN,hPi i hlt]
  have hnb:=qiu_ (linesOf p[i])
  have hbd:=yh_ P i
  rw [←hacc] at hbd
  have hta:(P.take (i+1)).flatten=all++linesOf p[i]:=by
   have hiP:i<P.length:=by omega
   have e:P[i]=linesOf p[i]:=by
    have:=hPi i hlt
    rw [List.getD_eq_getElem?_getD,List.getElem?_eq_getElem hiP] at this
    exact this
   rw [List.take_succ_eq_append_getElem hiP,List.flatten_append,←ha,e]
   simp
  have hal:all.length≤600000000:=by
   have h1:=congrArg (fun x=>x.flatten.length) (List.take_append_drop i P)
   have h2:((P.take i).flatten++(P.drop i).flatten).length=P.flatten.length:=by rw [←List.flatten_append,List.take_append_drop]
   have h3:=w7_ p
   have h4:=vx_ (l:=(p.map linesOf).flatten) (n:=600000000) (by omega)
   rw [hP] at h4
   rw [List.length_append] at h2
   rw [ha];omega
  refine ⟨p[i],rfl,by omega,?_⟩
  repeat' first|(refine fun (b:Bool) hb=>?_;cases b<;>first|exact absurd hb (by decide)|exact nfl hb|exact nfr hb|skip)|(refine fun (hl:_≤MAXL)=>?_)|refine And.intro (a:=I64 _) ?_ ?_|refine And.intro (a:=_≤140737488355328) ?_ ?_|refine ⟨_,rfl,?_,rfl,?_⟩|refine ⟨(fun _=>rfl),?_⟩|fail
  ·show ((all.map strV).length+((linesOf p[i]).map strV).length)*16≤140737488355328
   rw [List.length_map,List.length_map]
   omega
  ·unfold I64
   dsimp only
   omega
  ·have h:¬ (0:Int)<((linesOf p[i]).length:Int):=of_decide_eq_false (by assumption)
   have h0:linesOf p[i]=[]:=List.length_eq_zero_iff.1 (by omega)
   have e:sumN P (i+1)=acc:=by rw [hnx,h0,hacc];show _+0=_;omega
   refine ⟨(i+1,all++linesOf p[i],acc),?_,⟨hlt,hta.symm,e.symm⟩,by show p.length-(i+1)<p.length-i;omega⟩
   (refine qa_ ?_;refine Sel4.mk rfl rfl ?_ ?_<;>(repeat' first|exact True.intro|exact rfl|exact .inl rfl|exact .inr rfl|refine And.intro ?_ ?_|fail))
   show Row.row 1 _=Row.row 1 _
   rw [List.map_append]
  ·have h:(0:Int)<((linesOf p[i]).length:Int):=of_decide_eq_true (by assumption)
   have h0:0<(linesOf p[i]).length:=by omega
   exact h0
  have h:(0:Int)<((linesOf p[i]).length:Int):=of_decide_eq_true (by assumption)
  have hp0:0<(linesOf p[i]).length:=by omega
  obtain ⟨s,hs0⟩:∃ s,(linesOf p[i])[0]=s:=⟨_,rfl⟩
  have hsm:s∈linesOf p[i]:=by rw [←hs0];exact List.getElem_mem _
  have hsl:s.length≤1000000000:=by have:=xh_ p[i] s hsm;omega
  have hnh:numH (linesOf p[i])=numOf s:=by
   cases hq:linesOf p[i] with
   | nil=>rw [hq] at hp0;simp at hp0
   | cons x r=>simp only [hq] at hs0;rw [←hs0];rfl
  have nxt:∀ acc',acc'=sumN P (i+1)→((i+1,all++linesOf p[i],acc'):Nat × List Bs × Int).1≤p.length∧((i+1,all++linesOf p[i],acc'):Nat × List Bs × Int).2.1=(P.take (i+1)).flatten∧((i+1,all++linesOf p[i],acc'):Nat × List Bs × Int).2.2=sumN P (i+1):=fun acc' e=>⟨hlt,hta.symm,e⟩
  conv=>whnf
  refine ⟨(linesOf p[i])[0],rfl,by rw [hs0];omega,fun k hk=>?_,fun n T b hn=>?_⟩
  ·rw [hs0] at hk
   have hkb:=Lib.atoiAll_bounds hk
   have hno:numOf s=if 0≤k∧k≤4000∧Lib.itoa k=s then k else 0:=by unfold numOf;rw [hk]
   have hz:∀ h:¬ (0≤k∧k≤4000∧Lib.itoa k=s),acc=sumN P (i+1):=fun h=>by rw [hnx,hnh,hno,if_neg h,hacc];omega
   repeat' first|(refine fun (b:Bool) hb=>?_;cases b<;>first|exact absurd hb (by decide)|exact nfl hb|exact nfr hb|skip)|refine And.intro (a:=I64 _) ?_ ?_|refine ⟨_,⟨rfl,rfl⟩,?_⟩|fail
   ·unfold I64
    dsimp only
    omega
   ·have h:¬ (0:Int)≤k:=of_decide_eq_false (by assumption)
    exact ⟨(i+1,all++linesOf p[i],acc),by ((refine qa_ ?_;refine Sel4.mk rfl rfl ?_ ?_<;>(repeat' first|exact True.intro|exact rfl|exact .inl rfl|exact .inr rfl|refine And.intro ?_ ?_|fail));show Row.row 1 _=Row.row 1 _;rw [List.map_append]),nxt _ (hz (fun e=>h e.1)),by show p.length-(i+1)<p.length-i;omega⟩
   ·unfold I64
    dsimp only
    omega
   ·have h:¬ k≤4000:=of_decide_eq_false (by assumption)
    exact ⟨(i+1,all++linesOf p[i],acc),by ((refine qa_ ?_;refine Sel4.mk rfl rfl ?_ ?_<;>(repeat' first|exact True.intro|exact rfl|exact .inl rfl|exact .inr rfl|refine And.intro ?_ ?_|fail));show Row.row 1 _=Row.row 1 _;rw [List.map_append]),nxt _ (hz (fun e=>h e.2.1)),by show p.length-(i+1)<p.length-i;omega⟩
   apply Exists.intro
   apply And.intro
   ·refine ⟨k,rfl,hkb,?_⟩
    exact ⟨rfl,rfl⟩
   repeat' first|(refine fun (b:Bool) hb=>?_;cases b<;>first|exact absurd hb (by decide)|exact nfl hb|exact nfr hb|skip)|refine And.intro (a:=I64 _) ?_ ?_|refine ⟨_,⟨rfl,rfl⟩,?_⟩|refine ⟨_,⟨_,rfl,?_,rfl,rfl,rfl⟩,?_⟩|fail
   ·exact hp0
   ·unfold I64
    dsimp only
    omega
   ·have h:¬ Lib.itoa k=(linesOf p[i])[0]:=of_decide_eq_false (by assumption)
    rw [hs0] at h
    exact ⟨(i+1,all++linesOf p[i],acc),by ((refine qa_ ?_;refine Sel4.mk rfl rfl ?_ ?_<;>(repeat' first|exact True.intro|exact rfl|exact .inl rfl|exact .inr rfl|refine And.intro ?_ ?_|fail));show Row.row 1 _=Row.row 1 _;rw [List.map_append]),nxt _ (hz (fun e=>h e.2.2)),by show p.length-(i+1)<p.length-i;omega⟩
   ·have h2:k≤4000:=of_decide_eq_true (by assumption)
    unfold I64
    dsimp only
    omega
   ·unfold I64
    dsimp only
    omega
   ·have h:Lib.itoa k=(linesOf p[i])[0]:=of_decide_eq_true (by assumption)
    rw [hs0] at h
    have h1:(0:Int)≤k:=of_decide_eq_true (by assumption)
    have h2:k≤4000:=of_decide_eq_true (by assumption)
    have e:acc+k=sumN P (i+1):=by rw [hnx,hnh,hno,if_pos ⟨h1,h2,h⟩,hacc]
    exact ⟨(i+1,all++linesOf p[i],acc+k),by ((refine qa_ ?_;refine Sel4.mk rfl rfl ?_ ?_<;>(repeat' first|exact True.intro|exact rfl|exact .inl rfl|exact .inr rfl|refine And.intro ?_ ?_|fail));show Row.row 1 _=Row.row 1 _;rw [List.map_append]),nxt _ e,by show p.length-(i+1)<p.length-i;omega⟩
  ·rw [hs0] at hn
   have hno:numOf s=0:=by
    unfold numOf
    cases h:Lib.atoiAll s with
    | ok k=>exact absurd h (hn k)
    | _=>rfl
   have e:acc=sumN P (i+1):=by rw [hnx,hnh,hno,hacc];omega
   repeat' first|refine And.intro (a:=I64 _) ?_ ?_|refine ⟨_,⟨rfl,rfl⟩,?_⟩|fail
   ·unfold I64
    dsimp only
    omega
   exact ⟨(i+1,all++linesOf p[i],acc),by ((refine qa_ ?_;refine Sel4.mk rfl rfl ?_ ?_<;>(repeat' first|exact True.intro|exact rfl|exact .inl rfl|exact .inr rfl|refine And.intro ?_ ?_|fail));show Row.row 1 _=Row.row 1 _;rw [List.map_append]),nxt _ e,by show p.length-(i+1)<p.length-i;omega⟩
 have hpf:=w7_ p
 rw [hP] at hpf
 have hPf:=vx_ (l:=P.flatten) (n:=600000000) (by omega)
 have hjp:=v9_ hc4 P (by omega) (by omega)
 have hjd:jd h c p=put (joinB h c P):=by unfold jd;rw [hP]
 rw [hjd] at hK
 have hsb:=yh_ P P.length
 skip
 conv=>whnf
 refine qd_ [] (σ:=Unit) (fun _=>[(7,.sl strV (joinB h c P))]) (fun _=>[]) (fun _=>True) ?_
 conv=>whnf
 refine ⟨?_,fun _ _=>?_⟩
 rotate_left
 ·skip
  refine ⟨joinB h c P,rfl,by omega,?_⟩
  skip
  exact hK _ rfl
 repeat' first|refine ⟨_,_,_,LeL.refl _,?_⟩|(refine fun (b:Bool) hb=>?_;cases b<;>first|exact absurd hb (by decide)|exact nfl hb|exact nfr hb|skip)|(refine fun (hl:_≤MAXL)=>?_)|refine ⟨rfl,?_⟩|fail
 ·have h3:¬ h=3:=of_decide_eq_false (by assumption)
  have h4:¬ h=4:=of_decide_eq_false (by assumption)
  have h2:¬ h=2:=of_decide_eq_false (by assumption)
  have e:joinB h c P=P.flatten:=by unfold joinB;rw [if_neg h2,if_neg h3,if_neg h4]
  refine ⟨(),?_,trivial⟩
  rw [e]
  exact (wk_fz 1 rfl (LeL.refl _)).trans (by (refine qa_ ?_;refine Sel4.mk rfl rfl ?_ ?_<;>(repeat' first|exact True.intro|exact rfl|exact .inl rfl|exact .inr rfl|refine And.intro ?_ ?_|fail)))
 ·have h2:h=2:=of_decide_eq_true (by assumption)
  have e:joinB h c P=mergeB P:=by unfold joinB;rw [if_pos h2]
  conv=>whnf
  refine ⟨p.length,rfl,by show p.length*8≤140737488355328;omega,?_⟩
  conv=>whnf
  refine qb_ [2,14] (σ:=List Nat × List Bs) (fun s=>[(7,.own 1)]) (fun s=>[.dead,.row 1 (s.2.map strV),.row 1 (s.1.map fun (k:Nat)=>intV k)]) (fun s=>s.1.length=P.length∧(∀ i (hi:i<s.1.length) (hj:i<P.length),s.1[i]≤P[i].length)∧s.2++mergeB (curP P s.1)=mergeB P∧s.2.length+(curP P s.1).flatten.length=P.flatten.length) (fun s=>(curP P s.1).flatten.length) (List.replicate P.length 0,[]) ?_
  conv=>whnf
  refine ⟨?_,⟨by simp,fun i hi hj=>by simp,by rw [qru_];rfl,by rw [qru_];simp⟩,fun s hs=>?_⟩
  ·(refine qa_ ?_;refine Sel4.mk rfl rfl ?_ ?_<;>(repeat' first|exact True.intro|exact rfl|exact .inl rfl|exact .inr rfl|refine And.intro ?_ ?_|fail))
   show Row.row 1 ((List.replicate P.length 0).map fun (k:Nat)=>intV k)=Row.row 1 (List.replicate p.length (.int .i64 0))
   rw [List.map_replicate,hPl]
   rfl
  obtain ⟨ats,out⟩:=s
  obtain ⟨hal,hab,hom,hol⟩:=hs
  dsimp only at hal hab hom hol
  repeat' first|(refine fun (hl:_≤MAXL)=>?_)|fail
  conv=>whnf
  refine qb_ [2,7,14,79,80] (σ:=Nat × Int × Bs) (fun s=>[(81,.int .i64 s.1),(15,.int .i64 s.2.1),(16,.str s.2.2)]) (fun s=>[.dead,.row 1 (out.map strV),.row 1 (ats.map fun (k:Nat)=>intV k)]) (fun s=>s.1≤p.length∧s.2.1=bestN (best (curP P ats) s.1)∧s.2.2=bestS (best (curP P ats) s.1)) (fun s=>p.length-s.1) (0,-1,[]) ?_
  conv=>whnf
  refine ⟨(by (refine qa_ ?_;refine Sel4.mk rfl rfl ?_ ?_<;>(repeat' first|exact True.intro|exact rfl|exact .inl rfl|exact .inr rfl|refine And.intro ?_ ?_|fail))),⟨Nat.zero_le _,rfl,rfl⟩,fun s hs=>?_⟩
  obtain ⟨i,bn,bs⟩:=s
  obtain ⟨hi,hbn,hbs⟩:=hs
  dsimp only at hi hbn hbs
  have hql:(curP P ats).length=P.length:=qhz_ hal
  repeat' first|(refine fun (b:Bool) hb=>?_;cases b<;>first|exact absurd hb (by decide)|exact nfl hb|exact nfr hb|skip)|refine ⟨_,rfl,?_,rfl,?_⟩|refine ⟨rfl,?_⟩|fail
  ·
   have hge:¬ (i:Int)<(p.length:Int):=of_decide_eq_false (by assumption)
   have ei:i=(curP P ats).length:=by omega
   have hb:¬ bn<0:=of_decide_eq_false (by assumption)
   obtain ⟨j,s,hbt⟩:∃ j s,best (curP P ats) i=some (j,s):=by
    cases hq:best (curP P ats) i with
    | none=>rw [hq] at hbn;rw [hbn] at hb;exact absurd (show (-1:Int)<0 by decide) hb
    | some x=>exact ⟨x.1,x.2,rfl⟩
   rw [hbt] at hbn hbs
   have hbn:bn=(j:Int):=hbn
   have hbs:bs=s:=hbs
   rw [ei] at hbt
   have hms:=yq_ hbt
   obtain ⟨hji,⟨r,hjr⟩,-⟩:=zp_ hbt
   have hfl:=(xf_ hjr).length_eq
   rw [List.length_cons] at hfl
   have hjP:j<P.length:=by omega
   have hja:j<ats.length:=by omega
   have hset:=qrg_ hal hjP
   rw [qdd_ hal hjP] at hjr
   have hlt2:ats[j]<P[j].length:=by
    rcases Nat.lt_or_ge ats[j] P[j].length with h|h
    ·exact h
    ·rw [List.drop_eq_nil_of_le h] at hjr;cases hjr
   have hgj:(ats.map fun (k:Nat)=>intV k)[j]?=some (intV ats[j]):=by rw [List.getElem?_map,List.getElem?_eq_getElem hja];rfl
   have hjm:j<(ats.map fun (k:Nat)=>intV k).length:=by rw [List.length_map];exact hja
   have hPj:P[j].length≤500000000:=by
    have e:P[j]=linesOf (p[j]'(by omega)):=by
     have:=hPi j (by omega)
     rw [List.getD_eq_getElem?_getD,List.getElem?_eq_getElem hjP] at this
     exact this
    have h1:=q4_ (p[j]'(by omega))
    have h2:=hpl (p[j]'(by omega)) (List.getElem_mem _)
    rw [e];omega
   refine ⟨j,hbn,hjm,?_⟩
   conv=>whnf
   refine ⟨_,hgj,?_⟩
   repeat' first|refine And.intro (a:=I64 _) ?_ ?_|refine ⟨rfl,?_⟩|fail
   ·unfold I64
    omega
   refine ⟨j,hbn,hjm,?_⟩
   conv=>whnf
   refine ⟨hjm,?_⟩
   repeat' first|refine And.intro (a:=_≤140737488355328) ?_ ?_|refine ⟨rfl,?_⟩|fail
   ·show ((out.map strV).length+([bs].map strV).length)*16≤140737488355328
    rw [List.length_map,List.length_map,List.length_singleton]
    omega
   refine ⟨(ats.set j (ats[j]+1),out++[s]),?_,⟨?_,?_,?_,?_⟩,?_⟩
   ·(refine qa_ ?_;refine Sel4.mk rfl rfl ?_ ?_<;>(repeat' first|exact True.intro|exact rfl|exact .inl rfl|exact .inr rfl|refine And.intro ?_ ?_|fail))
    ·show Row.row 1 _=Row.row 1 _
     rw [hbs,List.map_append]
     rfl
    ·show Row.row 1 _=Row.row 1 _
     rw [List.map_set]
     rfl
   ·show (ats.set j _).length=_
    rw [List.length_set,hal]
   ·intro k hk hk2
    show (ats.set j (ats[j]+1))[k]≤_
    rw [List.getElem_set]
    split
    ·rename_i ejk
     subst ejk
     omega
    ·exact hab k _ hk2
   ·show (out++[s])++mergeB (curP P (ats.set j (ats[j]+1)))=_
    rw [hset,List.append_assoc,←hom,hms]
    rfl
   ·show (out++[s]).length+(curP P (ats.set j (ats[j]+1))).flatten.length=_
    rw [hset,List.length_append,List.length_singleton]
    omega
   ·show (curP P (ats.set j (ats[j]+1))).flatten.length<(curP P ats).flatten.length
    rw [hset]
    omega
  ·
   have hge:¬ (i:Int)<(p.length:Int):=of_decide_eq_false (by assumption)
   have ei:i=(curP P ats).length:=by omega
   have hb:bn<0:=of_decide_eq_true (by assumption)
   have hn:best (curP P ats) (curP P ats).length=none:=by
    rw [←ei]
    cases hq:best (curP P ats) i with
    | none=>rfl
    | some x =>
     obtain ⟨j,s⟩:=x
     rw [hq] at hbn
     have hbn:bn=(j:Int):=hbn
     omega
   rw [ys_ hn,List.append_nil] at hom
   refine ⟨(),?_,trivial⟩
   rw [e,←hom]
   exact (wk_fz 1 rfl (LeL.refl _)).trans (by (refine qa_ ?_;refine Sel4.mk rfl rfl ?_ ?_<;>(repeat' first|exact True.intro|exact rfl|exact .inl rfl|exact .inr rfl|refine And.intro ?_ ?_|fail)))
  ·have h:=of_decide_eq_true (by assumption:decide ((i:Int)<(p.length:Int))=true)
   show i<p.length
   omega
  all_goals have hlt:i<p.length:=by (have h:=of_decide_eq_true (by assumption:decide ((i:Int)<(p.length:Int))=true);omega)
  ·have:=hpl _ (List.getElem_mem hlt)
   show p[i].length≤1000000000
   omega
  have hiP:i<P.length:=by omega
  have hia:i<ats.length:=by omega
  have hPe:P[i]=linesOf p[i]:=by
   have:=hPi i hlt
   rw [List.getD_eq_getElem?_getD,List.getElem?_eq_getElem hiP] at this
   exact this
  have hgi:(ats.map fun (k:Nat)=>intV k)[i]?=some (intV ats[i]):=by rw [List.getElem?_map,List.getElem?_eq_getElem hia];rfl
  have him:i<(ats.map fun (k:Nat)=>intV k).length:=by rw [List.length_map];exact hia
  have hqi:=qdd_ hal hiP
  rw [hPe] at hqi
  have hnx:=qlh_ (curP P ats) i
  rw [hqi] at hnx
  refine ⟨i,rfl,him,?_⟩
  conv=>whnf
  refine ⟨_,hgi,?_⟩
  repeat' first|(refine fun (b:Bool) hb=>?_;cases b<;>first|exact absurd hb (by decide)|exact nfl hb|exact nfr hb|skip)|(refine fun (hl:_≤MAXL)=>?_)|refine And.intro (a:=I64 _) ?_ ?_|refine ⟨_,⟨rfl,rfl⟩,?_⟩|refine ⟨rfl,?_⟩|fail
  ·unfold I64
   dsimp only
   omega
  ·have h:¬ (ats[i]:Int)<((linesOf p[i]).length:Int):=of_decide_eq_false (by assumption)
   have h0:(linesOf p[i]).drop ats[i]=[]:=List.drop_eq_nil_of_le (by omega)
   rw [h0] at hnx
   have e0:best (curP P ats) (i+1)=best (curP P ats) i:=hnx
   refine ⟨(i+1,bn,bs),(by (refine qa_ ?_;refine Sel4.mk rfl rfl ?_ ?_<;>(repeat' first|exact True.intro|exact rfl|exact .inl rfl|exact .inr rfl|refine And.intro ?_ ?_|fail))),⟨hlt,by rw [e0];exact hbn,by rw [e0];exact hbs⟩,by show p.length-(i+1)<p.length-i;omega⟩
  ·have h:(ats[i]:Int)<((linesOf p[i]).length:Int):=of_decide_eq_true (by assumption)
   have hal2:ats[i]<(linesOf p[i]).length:=by omega
   have hdr:(linesOf p[i]).drop ats[i]=(linesOf p[i])[ats[i]]::(linesOf p[i]).drop (ats[i]+1):=List.drop_eq_getElem_cons hal2
   have hb:¬ bn<0:=of_decide_eq_false (by assumption)
   obtain ⟨j,t,hbt⟩:∃ j t,best (curP P ats) i=some (j,t):=by
    cases hq:best (curP P ats) i with
    | none=>rw [hq] at hbn;rw [hbn] at hb;exact absurd (show (-1:Int)<0 by decide) hb
    | some x=>exact ⟨x.1,x.2,rfl⟩
   rw [hdr,hbt] at hnx
   have hbs2:bs=t:=by rw [hbs,hbt];rfl
   have hcm:best (curP P ats) (i+1)=if Op.bytesLess (linesOf p[i])[ats[i]] t=true then some (i,(linesOf p[i])[ats[i]]) else some (j,t):=hnx
   refine ⟨i,rfl,him,?_⟩
   conv=>whnf
   refine ⟨_,hgi,?_⟩
   repeat' first|(refine fun (b:Bool) hb=>?_;cases b<;>first|exact absurd hb (by decide)|exact nfl hb|exact nfr hb|skip)|refine And.intro (a:=I64 _) ?_ ?_|refine ⟨_,⟨rfl,rfl⟩,?_⟩|refine ⟨_,rfl,?_,rfl,?_⟩|fail
   ·exact hal2
   ·unfold I64
    dsimp only
    omega
   ·have hl2:Op.bytesLess (linesOf p[i])[ats[i]] bs=false:=by assumption
    rw [←hbs2,hl2] at hcm
    have e0:best (curP P ats) (i+1)=best (curP P ats) i:=by rw [hbt,hcm,hbs2];rfl
    exact ⟨(i+1,bn,bs),(by (refine qa_ ?_;refine Sel4.mk rfl rfl ?_ ?_<;>(repeat' first|exact True.intro|exact rfl|exact .inl rfl|exact .inr rfl|refine And.intro ?_ ?_|fail))),⟨hlt,by rw [e0];exact hbn,by rw [e0];exact hbs⟩,by show p.length-(i+1)<p.length-i;omega⟩
   have hl2:Op.bytesLess (linesOf p[i])[ats[i]] bs=true:=by assumption
   rw [←hbs2,hl2] at hcm
   have e0:best (curP P ats) (i+1)=some (i,(linesOf p[i])[ats[i]]):=hcm
   conv=>whnf
   refine ⟨_,⟨rfl,i,rfl,him,⟨rfl,rfl⟩⟩,?_⟩
   repeat' first|exact True.intro|refine And.intro (a:=chkPast _ _ _ _ _ _ _ _) ?_ ?_|fail
   conv=>whnf
   refine ⟨_,⟨_,hgi,⟨rfl,rfl⟩⟩,?_⟩
   repeat' first|exact True.intro|refine And.intro (a:=I64 _) ?_ ?_|refine ⟨_,⟨rfl,rfl⟩,?_⟩|refine And.intro (a:=chkPast _ _ _ _ _ _ _ _) ?_ ?_|refine ⟨_,⟨_,rfl,?_,rfl,rfl,rfl⟩,?_⟩|fail
   ·exact hal2
   ·unfold I64
    dsimp only
    omega
   exact ⟨(i+1,(i:Int),(linesOf p[i])[ats[i]]),(by (refine qa_ ?_;refine Sel4.mk rfl rfl ?_ ?_<;>(repeat' first|exact True.intro|exact rfl|exact .inl rfl|exact .inr rfl|refine And.intro ?_ ?_|fail))),⟨hlt,by rw [e0];rfl,by rw [e0];rfl⟩,by show p.length-(i+1)<p.length-i;omega⟩
  ·have h:(ats[i]:Int)<((linesOf p[i]).length:Int):=of_decide_eq_true (by assumption)
   have hal2:ats[i]<(linesOf p[i]).length:=by omega
   have hdr:(linesOf p[i]).drop ats[i]=(linesOf p[i])[ats[i]]::(linesOf p[i]).drop (ats[i]+1):=List.drop_eq_getElem_cons hal2
   have hb:bn<0:=of_decide_eq_true (by assumption)
   have hbt:best (curP P ats) i=none:=by
    cases hq:best (curP P ats) i with
    | none=>rfl
    | some x =>
     obtain ⟨j,s⟩:=x
     rw [hq] at hbn
     have hbn:bn=(j:Int):=hbn
     omega
   rw [hdr,hbt] at hnx
   conv=>whnf
   refine ⟨_,⟨rfl,i,rfl,him,⟨rfl,rfl⟩⟩,?_⟩
   repeat' first|exact True.intro|refine And.intro (a:=chkPast _ _ _ _ _ _ _ _) ?_ ?_|fail
   conv=>whnf
   refine ⟨_,⟨_,hgi,⟨rfl,rfl⟩⟩,?_⟩
   repeat' first|exact True.intro|refine And.intro (a:=I64 _) ?_ ?_|refine ⟨_,⟨rfl,rfl⟩,?_⟩|refine And.intro (a:=chkPast _ _ _ _ _ _ _ _) ?_ ?_|refine ⟨_,⟨_,rfl,?_,rfl,rfl,rfl⟩,?_⟩|fail
   ·exact hal2
   ·unfold I64
    dsimp only
    omega
   have e0:best (curP P ats) (i+1)=some (i,(linesOf p[i])[ats[i]]):=hnx
   exact ⟨(i+1,(i:Int),(linesOf p[i])[ats[i]]),(by (refine qa_ ?_;refine Sel4.mk rfl rfl ?_ ?_<;>(repeat' first|exact True.intro|exact rfl|exact .inl rfl|exact .inr rfl|refine And.intro ?_ ?_|fail))),⟨hlt,by rw [e0];rfl,by rw [e0];rfl⟩,by show p.length-(i+1)<p.length-i;omega⟩
 ·have h3:¬ h=3:=of_decide_eq_false (by assumption)
  have h4:h=4:=of_decide_eq_true (by assumption)
  have e:joinB h c P=linesC c P.flatten:=by unfold joinB;rw [if_neg (by omega),if_neg h3,if_pos h4]
  refine ⟨c,P.flatten,rfl,⟨hc4 h4,by omega,fun s hs=>?_⟩,?_⟩
  ·have:=qr3_ hs
   omega
  skip
  refine ⟨(),?_,trivial⟩
  rw [e]
  exact (by (refine qa_ ?_;refine Sel4.mk rfl rfl ?_ ?_<;>(repeat' first|exact True.intro|exact rfl|exact .inl rfl|exact .inr rfl|refine And.intro ?_ ?_|fail)))
 ·have h3:h=3:=of_decide_eq_true (by assumption)
  have e:joinB h c P=[Lib.itoa (sumN P P.length)]:=by unfold joinB;rw [if_neg (by omega),if_pos h3]
  skip
  refine ⟨sumN P P.length,rfl,⟨by omega,by omega⟩,?_⟩
  skip
  refine ⟨(),?_,trivial⟩
  rw [e]
  exact (wk_fz (l:=[Lib.itoa (sumN P P.length)]) (enc:=strV) 2 rfl (LeL.refl _)).trans (by (refine qa_ ?_;refine Sel4.mk rfl rfl ?_ ?_<;>(repeat' first|exact True.intro|exact rfl|exact .inl rfl|exact .inr rfl|refine And.intro ?_ ?_|fail)))
end Gv
namespace Gv
variable [Glob] [Laid] [Nums] [Errs]
theorem qfe_:callable Tryz.prog 111=true:=by kernel_rfl
def nodeMadeR_S:Spec:=fun args K=>∃ (n:Gp.Node) (f:List FileS) (ins:List Bs),args=[nodeV n,.sl fileV f,.sl blV ins]∧(checkN n=0∧n.ins.length=ins.length∧ins.flatten.length≤500000000∧checkFiles f=0)∧K (.sl blV (makeN n f ins))
noncomputable def nodeMadeR_lib:List (Nat × Spec):=[(35,fileOfR_S),(94,wholeR_S),(158,splitOfR_S),(89,linesOfR_S),(88,madeR_S),(87,bytesOfR_S),(159,joinedR_S)]
noncomputable def nodeMadeR_fns:List (Nat × FnI):=[]
noncomputable def nodeMadeR_prims:List (Nat × PSpec):=[]
theorem qhb_:EnvOK ⟨Tryz.prog,tys,nodeMadeR_lib,nodeMadeR_fns,nodeMadeR_prims,[]⟩:=qf_ mixed0 tys0 (.cons qi5_ qjm_ (.cons qkx_ qn2_ (.cons qgh_ qg3_ (.cons z4_ z5_ (.cons qdx_ qds_ (.cons xu_ xn_ (.cons qja_ qkc_ .nil))))))) .nil .nil rfl
theorem qeh_:Pure Tryz.prog 111 nodeMadeR_S:=by
 refine qe_ qhb_ 6 (fi:={fn:=Tryz.f111,hooks:=[],draws:=[(5,[0,1,3,0,8,31,63]),(7,[0,1,0,4,12,28,63,127,255,511])]}) ⟨Tryz.func111,by kernel_rfl,by kernel_rfl⟩ ?_
 rintro _ K ⟨n,f,ins,rfl,⟨hn,hil,hfl,hcf⟩,hK⟩
 replace hK:∀ r,r=.sl blV (makeN n f ins)→K r:=fun r h=>h ▸ hK
 unfold makeN at hK
 have hf:∀ x∈f,x.b.length≤4000:=fun x hx=>((q8_ hcf).2 x hx).2
 have hfg:fileAt f n.file=getN f n.file:=qa3_ (files_iff.1 hcf).2.2
 have hshp:=qu_ hn
 have hfa:=wb_ hf n.file
 have hpf:=q6_ (fileAt f n.file)
 have hb0:=x5_ ins 0
 have hg0:∀ h:0<ins.length,ins.getD 0 []=ins[0]:=fun h=>by rw [List.getD_eq_getElem?_getD,List.getElem?_eq_getElem h];rfl
 have hp1:=q6_ (ins.getD 0 [])
 have hl1:=q4_ (ins.getD 0 [])
 have hel:=xh_ (ins.getD 0 [])
 repeat' first|exact True.intro|(refine fun (b:Bool) hb=>?_;cases b<;>first|exact absurd hb (by decide)|exact nfl hb|exact nfr hb|skip)|refine ⟨_,⟨rfl,rfl⟩,?_⟩|refine And.intro (a:=chkPast _ _ _ _ _ _ _ _) ?_ ?_|refine ⟨_,⟨_,rfl,?_,rfl,rfl,rfl⟩,?_⟩|fail
 ·have k1:¬ n.kind=1:=of_decide_eq_false (by assumption)
  have k2:¬ n.kind=2:=of_decide_eq_false (by assumption)
  have k3:¬ n.kind=3:=of_decide_eq_false (by assumption)
  have k4:¬ n.kind=4:=of_decide_eq_false (by assumption)
  rw [if_neg k1,if_neg k2,if_neg k3,if_neg k4] at hK
  conv=>whnf
  exact ⟨Bs,blV,hK _ rfl⟩
 ·have k4:n.kind=4:=of_decide_eq_true (by assumption)
  rw [if_neg (by omega),if_neg (by omega),if_neg (by omega),if_pos k4] at hK
  have hjc:checkJoin n.how n.c=0:=by
   rcases hshp with h|h|h|h|h
   ·omega
   ·omega
   ·omega
   ·exact h.2.2.2
   ·omega
  conv=>whnf
  refine ⟨n.how,n.c,ins,rfl,⟨(zm_ hjc).1,by omega,hfl⟩,?_⟩
  conv=>whnf
  refine ⟨Bs,blV,[jd n.how n.c ins],LeL.refl _,?_⟩
  exact hK _ rfl
 ·have k3:n.kind=3:=of_decide_eq_true (by assumption)
  show 0<ins.length
  omega
 ·have k3:n.kind=3:=of_decide_eq_true (by assumption)
  have h0:0<ins.length:=by omega
  have hc:checkCmd n.c=0:=by
   rcases hshp with h|h|h|h|h
   ·omega
   ·omega
   ·exact h.2.2
   ·omega
   ·omega
  rw [if_neg (by omega),if_neg (by omega),if_pos k3] at hK
  rw [hg0 h0] at hb0 hp1 hl1 hel hK
  have hlp:=zl_ hc (linesOf ins[0]) (by omega)
  apply Exists.intro
  apply And.intro
  ·refine ⟨ins[0],rfl,by omega,?_⟩
   exact ⟨rfl,rfl⟩
  skip
  apply Exists.intro
  apply And.intro
  ·refine ⟨n.c,linesOf ins[0],rfl,⟨hc,by omega,fun s hs=>by have:=hel s hs;omega⟩,?_⟩
   exact ⟨rfl,rfl⟩
  skip
  apply Exists.intro
  apply And.intro
  ·refine ⟨linesC n.c (linesOf ins[0]),rfl,by omega,?_⟩
   exact ⟨rfl,rfl⟩
  skip
  refine ⟨_,⟨Bs,blV,[put (linesC n.c (linesOf ins[0]))],LeL.refl _,rfl,rfl⟩,?_⟩
  repeat' first|refine ⟨_,⟨rfl,rfl⟩,?_⟩|fail
  conv=>whnf
  exact hK _ rfl
 ·have k2:n.kind=2:=of_decide_eq_true (by assumption)
  show 0<ins.length
  omega
 ·have k2:n.kind=2:=of_decide_eq_true (by assumption)
  have h0:0<ins.length:=by omega
  obtain ⟨w,hw⟩:∃ w:Nat,n.wide=w:=⟨n.wide.toNat,by omega⟩
  rw [if_neg (by omega),if_pos k2] at hK
  rw [hg0 h0] at hb0 hp1 hl1 hel hK
  rw [hw,Int.toNat_natCast] at hK
  apply Exists.intro
  apply And.intro
  ·refine ⟨ins[0],w,by rw [hw],⟨by omega,by omega,by omega⟩,?_⟩
   exact ⟨rfl,rfl⟩
  repeat' first|refine ⟨_,⟨rfl,rfl⟩,?_⟩|fail
  conv=>whnf
  exact hK _ rfl
 ·have k1:n.kind=1:=of_decide_eq_true (by assumption)
  rw [if_pos k1] at hK
  conv=>whnf
  refine ⟨f,n.file,rfl,?_⟩
  rw [hfg] at hK hfa
  refine ⟨getN f n.file,rfl,by omega,?_⟩
  skip
  conv=>whnf
  refine ⟨Bs,blV,[whole (getN f n.file)],LeL.refl _,?_⟩
  exact hK _ rfl
end Gv
namespace Gv
variable [Glob] [Laid] [Nums] [Errs]
def nodeMadeP_P:PSpec:=fun args rows K=>∃ (n:Gp.Node) (f:List FileS) (ins:List Bs),args=[nodeV n,.sl fileV f,.own 0]∧rows=[.row 1 (ins.map blV)]∧(checkN n=0∧n.ins.length=ins.length∧ins.flatten.length≤500000000∧checkFiles f=0)∧K (.sl blV (makeN n f ins)) [.fz blV ins]
theorem qbo_:PrimOK Tryz.prog 111 nodeMadeP_P:=by
 intro w0 m0 args rows K R m q w us C hv hT
 obtain ⟨n,f,ins,rfl,rfl,hc,hK⟩:=hT
 refine ql2_ (E:=⟨Tryz.prog,tys,[(111,nodeMadeR_S)],[],[],[]⟩) (qf_ mixed0 tys0 (.cons qfe_ qeh_ .nil) .nil .nil rfl) rfl C hv ?_
 conv=>whnf
 refine ⟨Bs,blV,ins,LeL.refl _,?_⟩
 conv=>whnf
 exact ⟨n,f,ins,rfl,hc,hK⟩
end Gv
namespace Gv
variable [Glob] [Laid] [Nums] [Errs]
def side12 (f1 tp ti:Nat) (m:MachS) (i:Nat) (u:List (List Int × Int)):Rows:=[.box [.ptr 0 0 0],.box [.own 7],.row 1 (frsN m.g m.g.length),.mp tp ti .pair intV u,.box [.ptr 2 i 0],.box (nodeV (ndG m.g i)).cells,.box [.fn f1 []]]
theorem qok_ (a:List Bs):catL a []=a:=by cases a<;>rfl
theorem qcp_:∀ (a b:List Bs) (k:Nat) (hk:k<a.length) (hb:k<b.length),(catL a (b.take k)).set k (a[k]++b[k])=catL a (b.take (k+1))
 | x::r,y::s,0,_,_=>by simp [catL,qok_]
 | x::r,y::s,k+1,hk,hb=>by
  have:=qcp_ r s k (by simpa using hk) (by simpa using hb)
  simp only [List.take_succ_cons,catL,List.set_cons_succ,List.getElem_cons_succ]
  rw [this]
theorem qks_:callable Tryz.prog 110=true:=by kernel_rfl
def full2a_P:PSpec:=fun args rows K=>∃ (m:MachS) (i:Nat) (els:List V) (u:List (List Int × Int)),args=[.ptr 9 0 0,.ptr 10 0 0,.ptr 5 0 0,.ptr 11 0 0]∧FocOK m i els∧(pr m i).got.flatten.length≤500000000∧rows=focR m i els++side12 109 47 3 m i u∧∀ a ex,a≠4→(focQ (fullM m i) i els a 4++ex)[a]?=some (.row 1 (List.replicate (pr m i).got.length .nil))→(focQ (fullM m i) i els a 4++ex)[4]?=some (.row 1 ((pr (fullM m i) i).out.map blV))→K (.tup []) (focQ (fullM m i) i els a 4++ex)
noncomputable def full2a_lib:List (Nat × Spec):=[]
noncomputable def full2a_fns:List (Nat × FnI):=[(109,{fn:=Tryz.f109,hooks:=[],draws:=[]})]
noncomputable def full2a_prims:List (Nat × PSpec):=[(111,nodeMadeP_P)]
theorem qp5_:EnvOK ⟨Tryz.prog,tys,full2a_lib,full2a_fns,full2a_prims,[(999999999,[]),(47,[true,true])]⟩:=qf_ mixed0 tys0 .nil (.cons (by kernel_rfl) ⟨Tryz.func109,by kernel_rfl,by kernel_rfl⟩ .nil) (.cons qbo_ .nil) (by kernel_rfl)
theorem qf3_:PrimOK Tryz.prog 110 full2a_P:=by
 refine q3_ qp5_ 6 qks_ (fi:={fn:=Tryz.f110,hooks:=[6],draws:=[(1,[0,0,2,6,14,0,32,96,224,511,1023,0]),(4,[0,0,2,6,14,0,62,0,255]),(6,[0,0,2,6,14,30,62,127,255,511])]}) ⟨Tryz.func110,by kernel_rfl,by kernel_rfl⟩ ?_
 rintro args rows K ⟨m,i,els,u,rfl,h,hsz,rfl,hK⟩
 have hei:(els.set i (procF (pr m i)))[i]?=some (procF (pr m i)):=List.getElem?_set_self (by rw [h.nl];exact h.lt)
 have hel:(els.set i (procF (pr m i))).length=m.g.length:=by rw [List.length_set,h.nl]
 have hpe:=h.pe
 have hgf:=gf_of h.g
 have hnd:ndG m.g i=m.g[i]'(h.lt):=qt_ h.lt
 unfold focR side12
 conv=>whnf
 refine ⟨_,hei,?_⟩
 conv=>whnf
 have hset:∀ x y:V,(els.set i x).set i y=els.set i y:=fun x y=>by rw [List.set_set]
 refine qd_ [0] (σ:=Unit) (fun _=>[]) (fun _=>[.box [.sl nodeV m.g,.sl fileV m.f,.own 1,.own 2,.sl byteV m.sunk],.row 4 (m.pipes.map pipeV),.rowq 5 (els.set i (procF ⟨(pr m i).got,(pr m i).pos,(pr m i).out,true,(pr m i).over⟩)),.fz blV (pr m i).got,.row 1 ((catL (pr m i).out (makeN (ndG m.g i) m.f (pr m i).got)).map blV)]++side12 109 47 3 m i u) (fun _=>True) ?_
 unfold side12
 conv=>whnf
 refine ⟨?_,fun _ _=>?_⟩
 ·have hcn:checkN (ndG m.g i)=0:=hgf.node i h.lt
  have hil:(ndG m.g i).ins.length=(pr m i).got.length:=h.got.symm
  have hfb:∀ x∈m.f,x.b.length≤4000:=fun x hx=>((q8_ h.f).2 x hx).2
  have hml:=qae_ hcn hil hfb hsz
  have hmo:=vs_ (f:=m.f) (ins:=(pr m i).got) hcn
  conv=>whnf
  repeat' first|exact True.intro|refine ⟨_,⟨rfl,rfl⟩,?_⟩|refine And.intro (a:=chkPast _ _ _ _ _ _ _ _) ?_ ?_|fail
  conv=>whnf
  apply Exists.intro
  apply And.intro
  ·conv=>whnf
   refine ⟨_,List.getElem?_set_self (by rw [hel];exact h.lt),?_⟩
   repeat' first|refine ⟨rfl,?_⟩|fail
   exact rfl
  conv=>whnf
  refine ⟨trivial,?_⟩
  conv=>whnf
  apply Exists.intro
  apply Exists.intro
  apply And.intro
  ·refine ⟨ndG m.g i,m.f,(pr m i).got,rfl,rfl,⟨hcn,hil,hsz,h.f⟩,?_⟩
   repeat' first|refine ⟨rfl,?_⟩|fail
   exact rfl
  conv=>whnf
  repeat' first|exact True.intro|refine ⟨_,⟨rfl,rfl⟩,?_⟩|refine ⟨_,(fun _=>⟨rfl,rfl⟩),?_⟩|refine And.intro (a:=chkPend _ _ _ _ _ _) ?_ ?_|fail
  conv=>whnf
  refine qb_ [0,3,18,19] (σ:=Nat) (fun k=>[(20,.int .i64 k)]) (fun k=>[.box [.sl nodeV m.g,.sl fileV m.f,.own 1,.own 2,.sl byteV m.sunk],.row 4 (m.pipes.map pipeV),.rowq 5 (els.set i (procF ⟨(pr m i).got,(pr m i).pos,(pr m i).out,true,(pr m i).over⟩)),.fz blV (pr m i).got,.row 1 ((catL (pr m i).out ((makeN (ndG m.g i) m.f (pr m i).got).take k)).map blV)]++side12 109 47 3 m i u) (fun k=>k≤(makeN (ndG m.g i) m.f (pr m i).got).length) (fun k=>(makeN (ndG m.g i) m.f (pr m i).got).length-k) 0 ?_
  unfold side12
  conv=>whnf
  refine ⟨?_,Nat.zero_le _,fun k hk=>?_⟩
  ·have hc0:catL (pr m i).out ((makeN (ndG m.g i) m.f (pr m i).got).take 0)=(pr m i).out:=by rw [List.take_zero];cases (pr m i).out<;>rfl
   rw [hset,hc0]
   refine qc_ [some 0,some 1,some 2,some 3,some 4,some 5,some 6,some 7,some 8,some 9,some 10,some 11] rfl rfl ?_ ?_<;>(repeat' (first|exact ye_ hpe ⟨rfl,rfl,rfl,Or.inr rfl,rfl,trivial⟩|exact True.intro|exact rfl|exact Or.inl rfl|exact Or.inr rfl|refine And.intro ?_ ?_|fail))
   all_goals done
  have hei2:(els.set i (procF ⟨(pr m i).got,(pr m i).pos,(pr m i).out,true,(pr m i).over⟩))[i]?=some (procF ⟨(pr m i).got,(pr m i).pos,(pr m i).out,true,(pr m i).over⟩):=List.getElem?_set_self (by rw [h.nl];exact h.lt)
  repeat' first|exact True.intro|(refine fun (b:Bool) hb=>?_;cases b<;>first|exact absurd hb (by decide)|exact nfl hb|exact nfr hb|skip)|refine ⟨_,⟨rfl,rfl⟩,?_⟩|refine And.intro (a:=chkPast _ _ _ _ _ _ _ _) ?_ ?_|refine ⟨_,rfl,?_,rfl,?_⟩|fail
  ·have hkl:k=(makeN (ndG m.g i) m.f (pr m i).got).length := by
    have h:=of_decide_eq_false (by assumption:decide ((k:Int)<((makeN (ndG m.g i) m.f (pr m i).got).length:Int))=false)
    omega
   subst hkl
   conv=>whnf
   refine ⟨(),?_,trivial⟩
   rw [List.take_length]
   exact (by (refine qc_ [some 0,some 1,some 2,some 3,some 4,some 5,some 6,some 7,some 8,some 9,some 10,some 11] rfl rfl ?_ ?_<;>(repeat' (first|exact qg_ hpe rfl rfl|exact True.intro|exact rfl|exact Or.inl rfl|exact Or.inr rfl|refine And.intro ?_ ?_|fail))))
  ·have h:=of_decide_eq_true (by assumption:decide ((k:Int)<((makeN (ndG m.g i) m.f (pr m i).got).length:Int))=true)
   exact (by omega:k<(makeN (ndG m.g i) m.f (pr m i).got).length)
  have hk2:k<(makeN (ndG m.g i) m.f (pr m i).got).length:=by
   have h:=of_decide_eq_true (by assumption:decide ((k:Int)<((makeN (ndG m.g i) m.f (pr m i).got).length:Int))=true)
   omega
  have hko:k<(pr m i).out.length:=by
   have h1:=h.out
   unfold nO at h1
   omega
  have hcl:k<(catL (pr m i).out ((makeN (ndG m.g i) m.f (pr m i).got).take k)).length:=by rw [yk_];exact hko
  have hgc:((catL (pr m i).out ((makeN (ndG m.g i) m.f (pr m i).got).take k)).map blV)[k]?=some (blV (pr m i).out[k]):=by
   rw [List.getElem?_map,List.getElem?_eq_getElem hcl]
   have h1:=qhh_ (pr m i).out ((makeN (ndG m.g i) m.f (pr m i).got).take k) k hko
   rw [List.getD_eq_getElem?_getD,List.getElem?_eq_getElem hcl,List.getD_eq_getElem?_getD,List.getElem?_eq_getElem hko,List.getD_eq_getElem?_getD,List.getElem?_eq_none (by rw [List.length_take];omega)] at h1
   simp only [Option.getD_some,Option.getD_none,List.append_nil] at h1
   rw [h1];rfl
  have hol:((pr m i).out[k]).length≤400000000:=h.big _ (List.mem_append_right _ (List.getElem_mem hko))
  have hnl:=v7_ (List.getElem_mem hk2)
  conv=>whnf
  apply Exists.intro
  apply And.intro
  ·conv=>whnf
   refine ⟨_,hei2,?_⟩
   repeat' first|refine ⟨rfl,?_⟩|fail
   exact rfl
  conv=>whnf
  refine ⟨trivial,?_⟩
  conv=>whnf
  repeat' first|refine ⟨_,⟨rfl,rfl⟩,?_⟩|fail
  conv=>whnf
  apply Exists.intro
  apply And.intro
  ·refine ⟨rfl,k,rfl,by rw [List.length_map];exact hcl,?_⟩
   exact ⟨rfl,rfl⟩
  conv=>whnf
  refine ⟨trivial,?_⟩
  conv=>whnf
  repeat' first|refine ⟨_,⟨rfl,rfl⟩,?_⟩|fail
  apply Exists.intro
  apply Exists.intro
  apply And.intro
  ·conv=>whnf
   refine ⟨_,hgc,?_⟩
   repeat' first|refine And.intro (a:=_≤140737488355328) ?_ ?_|refine ⟨(fun _=>rfl),?_⟩|fail
   ·show (0+((pr m i).out[k].map byteV).length)*1≤_
    rw [List.length_map];omega
   ·show (([]++(pr m i).out[k].map byteV).length+((makeN (ndG m.g i) m.f (pr m i).got)[k].map byteV).length)*1≤_
    rw [List.nil_append,List.length_map,List.length_map];omega
   conv=>whnf
   refine ⟨UInt8,byteV,(pr m i).out[k]++(makeN (ndG m.g i) m.f (pr m i).got)[k],LeL.of (by simp),?_⟩
   conv=>whnf
   refine ⟨by rw [List.length_map];exact hcl,?_⟩
   exact ⟨rfl,rfl⟩
  conv=>whnf
  repeat' first|exact True.intro|refine And.intro (a:=I64 _) ?_ ?_|refine And.intro (a:=chkPend _ _ _ _ _ _) ?_ ?_|fail
  ·have ho:=(qy_ hcn).2
   unfold I64
   omega
  conv=>whnf
  refine ⟨k+1,?_,by omega,by omega⟩
  have hst:=qcp_ (pr m i).out (makeN (ndG m.g i) m.f (pr m i).got) k hko hk2
  rw [←hst,List.map_set]
  exact (by (refine qc_ [some 0,some 1,some 2,some 3,some 4,some 5,some 6,some 7,some 8,some 9,some 10,some 11] rfl rfl ?_ ?_<;>(repeat' (first|exact qg_ hpe rfl rfl|exact True.intro|exact rfl|exact Or.inl rfl|exact Or.inr rfl|refine And.intro ?_ ?_|fail))))
 have hei2:(els.set i (procF ⟨(pr m i).got,(pr m i).pos,(pr m i).out,true,(pr m i).over⟩))[i]?=some (procF ⟨(pr m i).got,(pr m i).pos,(pr m i).out,true,(pr m i).over⟩):=List.getElem?_set_self (by rw [h.nl];exact h.lt)
 conv=>whnf
 repeat' first|exact True.intro|refine ⟨_,⟨rfl,rfl⟩,?_⟩|refine And.intro (a:=chkPast _ _ _ _ _ _ _ _) ?_ ?_|fail
 conv=>whnf
 apply Exists.intro
 apply And.intro
 ·conv=>whnf
  refine ⟨_,hei2,?_⟩
  repeat' first|refine ⟨rfl,?_⟩|fail
  exact rfl
 conv=>whnf
 refine ⟨trivial,?_⟩
 conv=>whnf
 repeat' first|exact True.intro|refine ⟨_,(fun _=>⟨rfl,rfl⟩),?_⟩|refine And.intro (a:=chkPast _ _ _ _ _ _ _ _) ?_ ?_|fail
 conv=>whnf
 apply Exists.intro
 apply Exists.intro
 apply And.intro
 ·conv=>whnf
  refine ⟨rfl,?_⟩
  conv=>whnf
  refine ⟨(pr m i).got.length,rfl,?_,?_⟩
  ·have:=h.got
   have hi5:=z7_ (hgf.node i h.lt)
   unfold nI at this
   show (pr m i).got.length*24≤_
   omega
  ·exact ⟨rfl,rfl⟩
 conv=>whnf
 repeat' first|exact True.intro|refine ⟨_,⟨rfl,rfl⟩,?_⟩|refine And.intro (a:=chkPend _ _ _ _ _ _) ?_ ?_|refine ⟨⟨rfl,rfl⟩,?_⟩|fail
 conv=>whnf
 apply Exists.intro
 apply Exists.intro
 apply And.intro
 ·conv=>whnf
  refine ⟨_,hei2,?_⟩
  exact ⟨rfl,rfl⟩
 conv=>whnf
 repeat' first|exact True.intro|refine And.intro (a:=chkPend _ _ _ _ _ _) ?_ ?_|fail
 conv=>whnf
 rw [hset]
 have hpi:pr (fullM m i) i=fullP (ndG m.g i) m.f (pr m i):=by
  unfold fullM
  rw [z9_ (by rw [h.np];exact h.lt),if_pos rfl]
 have e:focQ (fullM m i) i els 12 4=[.box [.sl nodeV m.g,.sl fileV m.f,.own 1,.own 2,.sl byteV m.sunk],.row 4 (m.pipes.map pipeV),.rowq 5 (els.set i (.agg [.own 12,.int .i64 (pr m i).pos,.own 4,.bool true,.bool (pr m i).over]))]:=by
  unfold focQ
  rw [hpi]
  rfl
 have hfin:=hK 12 ([.fz blV (pr m i).got,.row 1 ((catL (pr m i).out (makeN (ndG m.g i) m.f (pr m i).got)).map blV)]++side12 109 47 3 m i u++[.row 1 (List.replicate (pr m i).got.length .nil)]) (by decide) rfl (by rw [hpi];rfl)
 rw [e] at hfin
 exact hfin
end Gv
namespace Gv
variable [Glob] [Laid] [Nums] [Errs]
theorem qqu_ (n:Nat):LeL (List.replicate n V.nil) ((List.replicate n ([]:Bs)).map blV):=by
 refine ⟨by simp,fun i x y hx hy=>?_⟩
 rw [List.getElem?_replicate] at hx
 split at hx
 case isFalse=>cases hx
 cases hx
 rw [List.getElem?_map,List.getElem?_replicate,if_pos (by assumption)] at hy
 cases hy
 refine ⟨rfl,fun j v v' hv hv' m u h=>?_⟩
 match j,hv,hv' with
 | 0,hv,hv' =>
  simp [V.cells] at hv
  subst hv
  have:blV []=v':=by simpa [V.cells,blV] using hv'
  subst this
  cases h
  exact .sl0 (Nat.zero_le _) fun _=>rfl
 | n+1,hv,_=>simp [V.cells] at hv
theorem qp0_:callable Tryz.prog 110=true:=by kernel_rfl
def full2_P:PSpec:=fun args rows K=>∃ (m:MachS) (i:Nat) (els:List V) (u:List (List Int × Int)),args=[.ptr 9 0 0,.ptr 10 0 0,.ptr 5 0 0,.ptr 11 0 0]∧FocOK m i els∧(pr m i).got.flatten.length≤500000000∧rows=focR m i els++side12 109 47 3 m i u∧∀ a ex,a≠4→(focQ (fullM m i) i els a 4++ex)[a]?=some (.row 1 ((pr (fullM m i) i).got.map blV))→(focQ (fullM m i) i els a 4++ex)[4]?=some (.row 1 ((pr (fullM m i) i).out.map blV))→K (.tup []) (focQ (fullM m i) i els a 4++ex)
theorem qki_:PrimOK Tryz.prog 110 full2_P:=by
 intro w0 m0 args rows K R m' q w us C hv hT
 obtain ⟨m,i,els,u,rfl,h,hsz,rfl,hK⟩:=hT
 have hpi:pr (fullM m i) i=fullP (ndG m.g i) m.f (pr m i):=by
  unfold fullM
  rw [z9_ (by rw [h.np];exact h.lt),if_pos rfl]
 refine qlo_ qf3_ w0 m0 _ _ K R m' q w us C hv ⟨m,i,els,u,rfl,h,hsz,rfl,fun a ex ha h1 h2=>.inr ⟨a,1,_,_,h1,qqu_ _,?_⟩⟩
 have ha3:3≤a:=by
  rcases Nat.lt_or_ge a 3 with h3|h3
  ·exfalso
   have:a=0∨a=1∨a=2:=by omega
   rcases this with rfl|rfl|rfl<;>(unfold focQ at h1;simp at h1)
  ·exact h3
 have hal:=(List.getElem?_eq_some_iff.1 h1).1
 have e3:(focQ (fullM m i) i els a 4).length=3:=rfl
 have key:(focQ (fullM m i) i els a 4++ex).set a (.row 1 ((List.replicate (pr m i).got.length ([]:Bs)).map blV))=focQ (fullM m i) i els a 4++ex.set (a-3) (.row 1 ((List.replicate (pr m i).got.length ([]:Bs)).map blV)):=by
  rw [List.set_append_right _ _ (by rw [e3];exact ha3),e3]
 rw [key]
 refine hK a _ ha ?_ ?_
 ·rw [←key,List.getElem?_set_self hal,hpi]
  unfold fullP
  rw [List.map_const']
 ·rw [←key,List.getElem?_set_ne ha]
  exact h2
end Gv
namespace Gv
variable [Glob] [Laid]
def wrtP (p:PipeS) (b:Bs):PipeS × Nat × Int:=if p.closed=true then (zP,0,7) else (takeP p b,takeN p b,0)
theorem qn3_ {p:PipeS} (h:checkPipe p=0):0≤p.room∧p.room≤1000∧(p.room=0∨(p.b.length:Int)≤p.room)∧p.b.length≤40000∧(p.shut=true→p.b=[]):=by
 unfold checkPipe at h
 split at h
 ·cases h
 split at h
 ·cases h
 split at h
 ·cases h
 rename_i h1 h2 h3
 refine ⟨by omega,by omega,by omega,by omega,fun hs=>?_⟩
 exact Decidable.not_not.1 fun h4=>h3 ⟨hs,h4⟩
theorem qgf_:callable Tryz.prog 112=true:=by kernel_rfl
def writtenR_S:Spec:=fun args K=>∃ (p:PipeS) (b:Bs),args=[pipeV p,.sl byteV b]∧(checkPipe p=0∧b.length≤400000000)∧K (.tup [pipeV (wrtP p b).1,.int .i64 ((wrtP p b).2.1:Nat),.int .i64 (wrtP p b).2.2])
noncomputable def writtenR_lib:List (Nat × Spec):=[]
noncomputable def writtenR_fns:List (Nat × FnI):=[]
noncomputable def writtenR_prims:List (Nat × PSpec):=[]
theorem qkg_:EnvOK ⟨Tryz.prog,tys,writtenR_lib,writtenR_fns,writtenR_prims,[]⟩:=qf_ mixed0 tys0 .nil .nil .nil rfl
theorem qf0_:Pure Tryz.prog 112 writtenR_S:=by
 refine qe_ qkg_ 6 (fi:={fn:=Tryz.f112,hooks:=[8],draws:=[]}) ⟨Tryz.func112,by kernel_rfl,by kernel_rfl⟩ ?_
 rintro _ K ⟨p,b,rfl,⟨hc,hb⟩,hK⟩
 replace hK:∀ r,r=.tup [pipeV (wrtP p b).1,.int .i64 ((wrtP p b).2.1:Nat),.int .i64 (wrtP p b).2.2]→K r:=fun r h=>h ▸ hK
 obtain ⟨r1,r2,r3,r4,r5⟩:=qn3_ hc
 obtain ⟨rm,hrm⟩:∃ rm:Nat,(rm:Int)=if p.room=0 then 40000 else p.room:=⟨(if p.room=0 then 40000 else p.room).toNat,by split<;>omega⟩
 unfold wrtP at hK
 repeat' first|(refine fun (b:Bool) hb=>?_;cases b<;>first|exact absurd hb (by decide)|exact nfl hb|exact nfr hb|skip)|(refine fun (hl:_≤MAXL)=>?_)|fail
 rotate_left
 ·have hcl:p.closed=false:=by assumption
  have hsh:p.shut=true:=by assumption
  rw [if_neg (by rw [hcl];decide)] at hK
  conv=>whnf
  refine hK _ ?_
  unfold takeP takeN
  rw [if_pos hsh,if_pos hsh]
  rfl
 ·have hcl:p.closed=true:=by assumption
  rw [if_pos hcl] at hK
  conv=>whnf
  refine ⟨UInt8,byteV,?_⟩
  refine hK _ ?_
  rfl
 have hcl:p.closed=false:=by assumption
 have hsh:p.shut=false:=by assumption
 rw [if_neg (by rw [hcl];decide)] at hK
 have hcN:takeN p b=min b.length (rm-p.b.length):=by
  unfold takeN
  rw [if_neg (by rw [hsh];decide)]
  split at hrm
  ·rw [if_neg (by omega)];omega
  ·rw [if_pos (by omega)];omega
 have htP:takeP p b=⟨p.b++b.take (takeN p b),p.room,p.closed,p.shut⟩:=by
  unfold takeP
  rw [if_neg (by rw [hsh];decide)]
 conv=>whnf
 refine qd_ [1,2,4] (σ:=Unit) (fun _=>[(7,.int .i64 (rm:Int))]) (fun _=>[.box (pipeV p).cells,.box [.nil,.int .i64 0,.bool false,.bool false]]) (fun _=>True) ?_
 conv=>whnf
 refine ⟨?_,fun _ _=>?_⟩
 ·repeat' first|(refine fun (b:Bool) hb=>?_;cases b<;>first|exact absurd hb (by decide)|exact nfl hb|exact nfr hb|skip)|fail
  all_goals (try (conv=>whnf))
  ·have h0:p.room=0:=by simpa using ‹(!decide (p.room=0))=false›
   rw [if_pos h0] at hrm
   rw [hrm]
   exact ⟨(),(by (refine qa_ ?_;refine Sel4.mk rfl rfl ?_ ?_<;>(repeat' first|exact True.intro|exact rfl|exact .inl rfl|exact .inr rfl|refine And.intro ?_ ?_|fail))),trivial⟩
  ·have h0:¬ p.room=0:=by simpa using ‹(!decide (p.room=0))=true›
   rw [if_neg h0] at hrm
   rw [hrm]
   exact ⟨(),(by (refine qa_ ?_;refine Sel4.mk rfl rfl ?_ ?_<;>(repeat' first|exact True.intro|exact rfl|exact .inl rfl|exact .inr rfl|refine And.intro ?_ ?_|fail))),trivial⟩
 repeat' first|refine And.intro (a:=_≤140737488355328) ?_ ?_|refine ⟨(fun _=>rfl),?_⟩|fail
 ·show (0+(p.b.map byteV).length)*1≤_
  rw [List.length_map];omega
 conv=>whnf
 refine qb_ [1,2,4,7] (σ:=Nat) (fun n=>[(8,.int .i64 n),(9,.own 2)]) (fun n=>[.box (pipeV p).cells,.box [.nil,.int .i64 0,.bool false,.bool false],.row 1 ((p.b++b.take n).map byteV)]) (fun n=>n≤takeN p b) (fun n=>takeN p b-n) 0 ?_
 conv=>whnf
 refine ⟨?_,Nat.zero_le _,fun n hn=>?_⟩
 ·rw [List.take_zero,List.append_nil]
  exact (by (refine qc_ [some 0,some 1,some 3] rfl rfl ?_ ?_<;>(repeat' first|exact True.intro|exact rfl|exact .inl rfl|exact .inr rfl|refine And.intro ?_ ?_|fail)))
 have hlen:((p.b++b.take n).map byteV).length=p.b.length+n:=by
  rw [List.length_map,List.length_append,List.length_take]
  omega
 have hend:¬ ((n:Int)<(b.length:Int)∧((p.b.length+n:Nat):Int)<(rm:Int))→n=takeN p b:=fun h=>by omega
 have hout:n=takeN p b→K (.tup [.agg [.sl byteV (p.b++b.take n),.int .i64 p.room,.bool p.closed,.bool p.shut],.int .i64 (n:Int),.int .i64 0]):=fun e=>by
  subst e
  refine hK _ ?_
  rw [htP]
  rfl
 repeat' first|refine ⟨_,_,_,LeL.refl _,?_⟩|(refine fun (b:Bool) hb=>?_;cases b<;>first|exact absurd hb (by decide)|exact nfl hb|exact nfr hb|skip)|(refine fun (hl:_≤MAXL)=>?_)|refine And.intro (a:=I64 _) ?_ ?_|refine And.intro (a:=_≤140737488355328) ?_ ?_|refine ⟨_,rfl,?_,rfl,?_⟩|refine ⟨rfl,?_⟩|fail
 ·have h1:=of_decide_eq_false (by assumption:decide ((n:Int)<(b.length:Int))=false)
  have e:=hend (by omega)
  conv=>whnf
  exact hout e
 ·have h1:=of_decide_eq_false (by assumption:decide (((((p.b++b.take n).map byteV).length:Nat):Int)<(rm:Int))=false)
  rw [hlen] at h1
  have e:=hend (by omega)
  conv=>whnf
  exact hout e
 all_goals
  have h1:=of_decide_eq_true (by assumption:decide ((n:Int)<(b.length:Int))=true)
  have h2:=of_decide_eq_true (by assumption:decide (((((p.b++b.take n).map byteV).length:Nat):Int)<(rm:Int))=true)
  rw [hlen] at h2
  have hlt:n<b.length:=by omega
 ·exact hlt
 ·show (((p.b++b.take n).map byteV).length+1)*1≤_
  rw [hlen];omega
 ·unfold I64;omega
 conv=>whnf
 refine ⟨n+1,?_,by omega,by omega⟩
 (refine qa_ ?_;refine Sel4.mk rfl rfl ?_ ?_<;>(repeat' first|exact True.intro|exact rfl|exact .inl rfl|exact .inr rfl|refine And.intro ?_ ?_|fail))
 show Row.row 1 _=Row.row 1 _
 rw [List.take_succ_eq_append_getElem hlt,←List.append_assoc,List.map_append]
 rfl
end Gv
namespace Gv
variable [Glob] [Laid]
theorem qe3_:callable Tryz.prog 160=true:=by kernel_rfl
def containsI_S:Spec:=fun args K=>∃ (l:List Int) (c:Int),args=[.sl intV l,.int .i64 c]∧K (.bool (decide (c∈l)))
noncomputable def containsI_lib:List (Nat × Spec):=[]
noncomputable def containsI_fns:List (Nat × FnI):=[(212,{fn:=Tryz.f212,hooks:=[],draws:=[]})]
noncomputable def containsI_prims:List (Nat × PSpec):=[]
theorem qge_:EnvOK ⟨Tryz.prog,tys,containsI_lib,containsI_fns,containsI_prims,[]⟩:=qf_ mixed0 tys0 .nil (.cons (by kernel_rfl) ⟨Tryz.func212,by kernel_rfl,by kernel_rfl⟩ .nil) .nil rfl
theorem qd9_:Pure Tryz.prog 160 containsI_S:=by
 refine qe_ qge_ 6 (fi:={fn:=Tryz.f160,hooks:=[],draws:=[]}) ⟨Tryz.func160,by kernel_rfl,by kernel_rfl⟩ ?_
 rintro _ K ⟨l,c,rfl,hK⟩
 replace hK:∀ r,r=.bool (decide (c∈l))→K r:=fun r h=>h ▸ hK
 refine fun (hl:_≤MAXL)=>?_
 conv=>whnf
 refine qb_ [0,1,7] (σ:=Nat) (fun i=>[(8,.int .i64 i)]) (fun i=>[]) (fun i=>i≤l.length∧c ∉ l.take i) (fun i=>l.length-i) 0 ?_
 conv=>whnf
 refine ⟨(by (refine qa_ ?_;refine Sel4.mk rfl rfl ?_ ?_<;>(repeat' first|exact True.intro|exact rfl|exact .inl rfl|exact .inr rfl|refine And.intro ?_ ?_|fail))),⟨Nat.zero_le _,by simp⟩,fun i hi=>?_⟩
 obtain ⟨hi,hc⟩:=hi
 repeat' first|(refine fun (b:Bool) hb=>?_;cases b<;>first|exact absurd hb (by decide)|exact nfl hb|exact nfr hb|skip)|refine And.intro (a:=I64 _) ?_ ?_|refine ⟨_,rfl,?_,rfl,?_⟩|fail
 ·refine hK _ ?_
  have e:l.take i=l:=List.take_of_length_le (by grind)
  rw [e] at hc
  simp [hc]
 ·grind
 ·(first|omega|(unfold I64;omega)|(simp only [List.length_append,List.length_map,List.length_cons,List.length_nil,Nat.mul_one,Int.ofNat_eq_natCast] at *;omega)|(dsimp only at *;omega)|(unfold I64;dsimp only at *;omega)|(unfold I64;grind)|grind)
 ·have hi2:i<l.length:=by grind
  refine ⟨i+1,(by (refine qa_ ?_;refine Sel4.mk rfl rfl ?_ ?_<;>(repeat' first|exact True.intro|exact rfl|exact .inl rfl|exact .inr rfl|refine And.intro ?_ ?_|fail))),⟨by grind,?_⟩,by grind⟩
  rw [List.take_succ_eq_append_getElem hi2]
  simp only [List.mem_append,List.mem_singleton,not_or]
  refine ⟨hc,fun e=>?_⟩
  subst e
  simp at *
 ·have hi2:i<l.length:=by grind
  refine hK _ ?_
  have e:c=l[i]:=by grind
  have h1:decide (c∈l)=true:=by
   rw [e]
   simp
  have h2:decide ((0:Int)≤(i:Int))=true:=by simp
  rw [h1,h2]
end Gv
namespace Gv
variable [Glob] [Laid]
theorem qje_:callable Tryz.prog 113=true:=by kernel_rfl
def isEachR_S:Spec:=fun args K=>∃ (c:Cmd),args=[cmdV c]∧K (.bool (Gp.each c))
noncomputable def isEachR_lib:List (Nat × Spec):=[(160,containsI_S)]
noncomputable def isEachR_fns:List (Nat × FnI):=[]
noncomputable def isEachR_prims:List (Nat × PSpec):=[]
theorem qoc_:EnvOK ⟨Tryz.prog,tys,isEachR_lib,isEachR_fns,isEachR_prims,[]⟩:=qf_ mixed0 tys0 (.cons qe3_ qd9_ .nil) .nil .nil rfl
theorem qjp_:Pure Tryz.prog 113 isEachR_S:=by
 refine qe_ qoc_ 6 (fi:={fn:=Tryz.f113,hooks:=[],draws:=[]}) ⟨Tryz.func113,by kernel_rfl,by kernel_rfl⟩ ?_
 rintro _ K ⟨c,rfl,hK⟩
 replace hK:∀ r,r=.bool (Gp.each c)→K r:=fun r h=>h ▸ hK
 skip
 refine ⟨Int,intV,[1,2,3,4,5],LeL.refl _,?_⟩
 refine ⟨[1,2,3,4,5],c.kind,rfl,?_⟩
 refine hK _ ?_
 unfold Gp.each
 congr 1
 simp only [List.mem_cons,List.not_mem_nil,or_false]
 grind
end Gv
namespace Gv
variable [Glob] [Laid] [Nums] [Errs]
theorem qls_ {l:List V} {r:Nat} {x y:V} (h:x.cells.length=y.cells.length) (hc:∀ (j:Nat) v v',x.cells[j]?=some v→y.cells[j]?=some v'→v.Le v'):LeL (l.set r x) (l.set r y):=by
 refine ⟨by simp,fun i a b ha hb=>?_⟩
 by_cases e:r=i
 ·subst e
  have hr:r<l.length:=by have:=(List.getElem?_eq_some_iff.1 ha).1;simpa using this
  rw [List.getElem?_set_self hr] at ha hb
  cases ha
  cases hb
  exact ⟨h,hc⟩
 ·rw [List.getElem?_set_ne e] at ha hb
  rw [ha] at hb
  cases hb
  exact ⟨rfl,fun j v v' hv hv'=>by rw [hv] at hv';cases hv';exact V.Le.refl _⟩
theorem qr1_ (b:Bool):V.Le (.lit b) (.bool b):=fun m u h=>by cases h;exact .bool
theorem quh_:V.Le .nil (.sl byteV []):=fun m u h=>by cases h;exact .sl0 (Nat.zero_le _) fun _=>rfl
theorem qfj_ {a b c d a' b' c' d':V} (h1:V.Le a a') (h2:V.Le b b') (h3:V.Le c c') (h4:V.Le d d'):∀ (j:Nat) v v',(V.agg [a,b,c,d]).cells[j]?=some v→(V.agg [a',b',c',d']).cells[j]?=some v'→v.Le v':=fun j v v' hv hv'=>by
 match j,hv,hv' with
 | 0,hv,hv'=>cases hv;cases hv';exact h1
 | 1,hv,hv'=>cases hv;cases hv';exact h2
 | 2,hv,hv'=>cases hv;cases hv';exact h3
 | 3,hv,hv'=>cases hv;cases hv';exact h4
 | n+4,hv,_=>cases hv
theorem qml_ {l:List PipeS} {r:Nat} {q:PipeS}:LeL ((l.map pipeV).set r (.agg [.sl byteV q.b,.int .i64 q.room,.lit true,.bool q.shut])) ((l.set r ⟨q.b,q.room,true,q.shut⟩).map pipeV):=by
 rw [List.map_set]
 exact qls_ rfl (qfj_ (a':=.sl byteV q.b) (b':=.int .i64 q.room) (c':=.bool true) (d':=.bool q.shut) (V.Le.refl _) (V.Le.refl _) (qr1_ true) (V.Le.refl _))
theorem qp6_ {l:List PipeS} {r:Nat} {q:PipeS}:LeL ((l.map pipeV).set r (.agg [.nil,.int .i64 q.room,.bool q.closed,.lit true])) ((l.set r (shutP q)).map pipeV):=by
 rw [List.map_set]
 exact qls_ rfl (qfj_ (a':=.sl byteV []) (b':=.int .i64 q.room) (c':=.bool q.closed) (d':=.bool true) quh_ (V.Le.refl _) (V.Le.refl _) (qr1_ true))
theorem qms_ (b:Bs) (c:UInt8):comp (b++[c])=if c=10 then b++[c] else comp b:=by
 unfold comp
 rw [List.reverse_append,List.reverse_singleton,List.singleton_append,List.dropWhile_cons]
 by_cases h:c=10
 ·subst h
  simp
 ·rw [if_pos (by simpa using h),if_neg h]
theorem qb7_ {p:Prop} [Decidable p] {G:Prop} (h1:decide p=true) (h2:decide p=false):G:=by rw [h1] at h2;cases h2
theorem qut_ {k:Int} {G:Prop} (h1:decide (k=4)=true) (h2:decide (k=3)=true):G:=by
 have:=of_decide_eq_true h1
 have:=of_decide_eq_true h2
 omega
theorem qg1_:callable Tryz.prog 49=true:=by kernel_rfl
def steppedF_P:PSpec:=fun args rows K=>StepE stepZ args rows K
noncomputable def steppedF_lib:List (Nat × Spec):=[(112,writtenR_S),(113,isEachR_S),(89,linesOfR_S),(88,madeR_S),(87,bytesOfR_S)]
noncomputable def steppedF_fns:List (Nat × FnI):=[(109,{fn:=Tryz.f109,hooks:=[],draws:=[]}),(157,{fn:=Tryz.f157,hooks:=[],draws:=[]}),(110,{ fn:=Tryz.f110,spec:=some full2_P })]
noncomputable def steppedF_prims:List (Nat × PSpec):=[(108,pipesP_P)]
theorem qkj_:EnvOK ⟨Tryz.prog,tys,steppedF_lib,steppedF_fns,steppedF_prims,[(47,[true,true])]⟩:=qf_ mixed0 tys0 (.cons qgf_ qf0_ (.cons qje_ qjp_ (.cons z4_ z5_ (.cons qdx_ qds_ (.cons xu_ xn_ .nil))))) (.cons (by kernel_rfl) ⟨Tryz.func109,by kernel_rfl,by kernel_rfl⟩ (.cons (by kernel_rfl) ⟨Tryz.func157,by kernel_rfl,by kernel_rfl⟩ (.told qp0_ rfl qki_ .nil))) (.cons qhi_ .nil) (by kernel_rfl)
set_option maxHeartbeats 40000000 in
theorem qd7_:PrimOK Tryz.prog 49 steppedF_P:=by
 refine q3_ qkj_ 6 qg1_ (fi:={fn:=Tryz.f49,hooks:=[100002,5,28,43,46,55,66,67],draws:=[(16,[0,1,3,7,0,0,32,96,224,0,0,0,0,6144,1535,17919,65535,131071]),(25,[0,1,3,7,0,0,0,96,240,511,1023,2047]),(32,[0,1,3,7,0,0,0,64,192,448,1008,2047,4095]),(37,[0,1,3,7,0,16,48,127]),(44,[0,0,2,6,14,0,32,96,224,510,0,2047]),(45,[0,1,3,7,0,16,48,112,255,511,1023]),(56,[0,0,2,6,0,31]),(57,[0,1,3,7,0,16,48,112,255,511]),(59,[0,0,2,6,14,30,0,0,192,511]),(60,[0,1,3,7,0,16,48,112,0,0,768,2047,4095]),(62,[0,0,2,6,14,30,0,64,0,0,768,1792,4032,8128,16383]),(63,[0,1,3,7,0,16,48,112,0,0,768,2047,4095])]}) ⟨Tryz.func49,by kernel_rfl,by kernel_rfl⟩ ?_
 rintro args rows K ⟨m,i,els,rfl,h,⟨hq,hp0,hp1,hsz,hsk⟩,rfl,hK⟩
 have hei:(els.set i (procF (pr m i)))[i]?=some (procF (pr m i)):=List.getElem?_set_self (by rw [h.nl];exact h.lt)
 have hel:(els.set i (procF (pr m i))).length=m.g.length:=by rw [List.length_set,h.nl]
 have hpe:=h.pe
 have hgf:=gf_of h.g
 have hmp:i<m.p.length:=by rw [h.np];exact h.lt
 have hnd:ndG m.g i=m.g[i]'(h.lt):=qt_ h.lt
 have hlt:=h.lt
 have hni:nI m.g i=m.g[i].ins.length:=by unfold nI;rw [hnd]
 have hend2:∀ (M:MachS) (c:Int) (a:Nat) (ex:Rows),stepM m i=(M,c)→a≠4→(focQ M i els a 4++ex)[a]?=some (.row 1 ((pr M i).got.map blV))→(focQ M i els a 4++ex)[4]?=some (.row 1 ((pr M i).out.map blV))→K (.int .i64 c) (focQ M i els a 4++ex):=fun M c a ex e h1 h2 h3=>by
  rw [e] at hK
  exact hK a 4 ex h1 h2 h3
 have hend:∀ (M:MachS) (c:Int) (ex:Rows),stepM m i=(M,c)→K (.int .i64 c) (focR M i els++ex):=fun M c ex e=>by
  rw [e] at hK
  exact hK 3 4 ([.row 1 ((pr M i).got.map blV),.row 1 ((pr M i).out.map blV)]++ex) (by decide) rfl rfl
 unfold focR
 conv=>whnf
 refine ⟨m.g,rfl,rfl,h.g,fun u hu=>?_⟩
 conv=>whnf
 refine region6 (g:=m.g) (k:=i) h.lt [(1,.int .i64 i),(2,.ptr 5 0 0),(5,.fn 157 [.ptr 6 0 0]),(6,.map 8)] rfl (by kernel_rfl) (by kernel_rfl) rfl rfl ?_ rfl rfl rfl rfl rfl (by rw [hel];exact h.lt) (y3_ rfl (y3_ rfl (y3_ rfl (y3_ rfl (fun _ _ h=>by cases h))))) ?_ ?_
 ·intro d g1 g2
  have g3:d=34∨d=35∨d=36∨d=37∨d=38∨d=39∨d=40∨d=41∨d=42∨d=43∨d=44∨d=45∨d=46∨d=47:=by omega
  rcases g3 with rfl|rfl|rfl|rfl|rfl|rfl|rfl|rfl|rfl|rfl|rfl|rfl|rfl|rfl<;>rfl
 ·exact (by (refine qc_ [some 0,some 1,some 2,some 3,some 4,some 5,some 6,some 7,some 8,some 10,some 9] rfl rfl ?_ ?_<;>(repeat' (first|exact qg_ hpe rfl rfl|exact True.intro|exact rfl|exact Or.inl rfl|exact Or.inr rfl|refine And.intro ?_ ?_|fail))))
 conv=>whnf
 refine qd_ [1] (σ:=Unit) (fun _=>[(2,.ptr 5 0 0),(5,.fn 157 [.ptr 6 0 0]),(6,.map 8),(7,.ptr 9 0 0),(8,.ptr 10 0 0),(9,.ptr 11 0 0),(10,.fn 110 [.ptr 9 0 0,.ptr 10 0 0,.ptr 5 0 0,.ptr 11 0 0])]) (fun _=>[.box [.sl nodeV m.g,.sl fileV m.f,.own 1,.own 2,.sl byteV m.sunk],.row 4 (m.pipes.map pipeV),.rowq 5 (els.set i (procF (pr m i))),.row 1 ((pr m i).got.map blV),.row 1 ((pr m i).out.map blV)]++side12 109 47 3 m i u) (fun _=>True) ?_
 unfold side12
 rw [hnd]
 conv=>whnf
 refine ⟨?_,fun _ _=>?_⟩
 ·conv=>whnf
  exact ⟨(),(by (refine qc_ [some 0,some 1,some 2,some 3,some 4,some 5,some 6,some 7,some 8,some 9,some 10,some 11] rfl rfl ?_ ?_<;>(repeat' (first|exact qg_ hpe rfl rfl|exact True.intro|exact rfl|exact Or.inl rfl|exact Or.inr rfl|refine And.intro ?_ ?_|fail)))),trivial⟩
 conv=>whnf
 refine ⟨_,hei,?_⟩
 repeat' first|(refine fun (b:Bool) hb=>?_;cases b<;>first|exact absurd hb (by decide)|exact nfl hb|exact nfr hb|skip)|fail
 rotate_left
 ·have ho:(pr m i).over=true:=by assumption
  conv=>whnf
  exact hend m 7 _ (by unfold stepM;rw [if_pos ho])
 have ho:(pr m i).over=false:=by assumption
 conv=>whnf
 refine ⟨_,hei,?_⟩
 repeat' first|(refine fun (hl:_≤MAXL)=>?_)|fail
 conv=>whnf
 refine qb_ [1,2,5,6,7,8,9,10,56,57] (σ:=Nat × Bool) (fun s=>[(58,.int .i64 s.1),(11,.bool s.2)]) (fun _=>[.box [.sl nodeV m.g,.sl fileV m.f,.own 1,.own 2,.sl byteV m.sunk],.row 4 (m.pipes.map pipeV),.rowq 5 (els.set i (procF (pr m i))),.row 1 ((pr m i).got.map blV),.row 1 ((pr m i).out.map blV)]++side12 109 47 3 m i u) (fun s=>s.1≤(pr m i).out.length∧(∀ j,j<s.1→canW m i j=false)∧(s.2=true↔∃ j,j<s.1∧outK m i j≠[])) (fun s=>(pr m i).out.length-s.1) (0,false) ?_
 unfold side12
 rw [hnd]
 conv=>whnf
 refine ⟨(by (refine qc_ [some 0,some 1,some 2,some 3,some 4,some 5,some 6,some 7,some 8,some 9,some 10,some 11] rfl rfl ?_ ?_<;>(repeat' (first|exact qg_ hpe rfl rfl|exact True.intro|exact rfl|exact Or.inl rfl|exact Or.inr rfl|refine And.intro ?_ ?_|fail)))),⟨Nat.zero_le _,fun j hj=>by omega,⟨(fun h=>by cases h),(fun ⟨j,hj,_⟩=>by omega)⟩⟩,fun s hs=>?_⟩
 obtain ⟨k,w⟩:=s
 obtain ⟨hk,hno,hw⟩:=hs
 dsimp only at hk hno hw
 repeat' first|(refine fun (b:Bool) hb=>?_;cases b<;>first|exact absurd hb (by decide)|exact nfl hb|exact nfr hb|skip)|refine ⟨rfl,?_⟩|fail
 rotate_left
 ·have hwt:w=true:=by assumption
  have hkl:k=(pr m i).out.length:=by
   have h:=of_decide_eq_false (by assumption:decide ((k:Int)<(((pr m i).out.map blV).length:Int))=false)
   rw [List.length_map] at h
   omega
  subst hkl
  obtain ⟨j,hj,hne⟩:=hw.1 hwt
  have hany:(pr m i).out.any (fun b=>decide (b≠[]))=true:=by
   rw [List.any_eq_true]
   refine ⟨outK m i j,?_,decide_eq_true hne⟩
   unfold outK
   rw [List.getD_eq_getElem?_getD,List.getElem?_eq_getElem hj]
   exact List.getElem_mem hj
  conv=>whnf
  exact hend m 8 _ (qcj_ ho hany hno)
 ·have hk2:k<(pr m i).out.length := by
   have h:=of_decide_eq_true (by assumption:decide ((k:Int)<(((pr m i).out.map blV).length:Int))=true)
   rw [List.length_map] at h
   omega
  have hgk:((pr m i).out.map blV)[k]?=some (blV (outK m i k)):=by
   unfold outK
   rw [List.getElem?_map,List.getElem?_eq_getElem hk2,List.getD_eq_getElem?_getD,List.getElem?_eq_getElem hk2];rfl
  have hI64:I64 ((k:Int)+1):=by
   have hM:((pr m i).out.map blV).length≤MAXL:=by assumption
   rw [List.length_map] at hM
   unfold I64;unfold MAXL at hM;omega
  refine ⟨k,rfl,by rw [List.length_map];exact hk2,?_⟩
  conv=>whnf
  refine ⟨_,hgk,?_⟩
  repeat' first|(refine fun (b:Bool) hb=>?_;cases b<;>first|exact absurd hb (by decide)|exact nfl hb|exact nfr hb|skip)|(refine fun (hl:_≤MAXL)=>?_)|refine And.intro (a:=I64 _) ?_ ?_|fail
  rotate_left
  ·exact hI64
  ·have he:outK m i k=[] := by
    have h:=of_decide_eq_true (by assumption:decide (((outK m i k).length:Int)=0)=true)
    exact List.length_eq_zero_iff.1 (by omega)
   have hcw:canW m i k=false:=by unfold canW;rw [he];rfl
   conv=>whnf
   refine ⟨(k+1,w),(by (refine qc_ [some 0,some 1,some 2,some 3,some 4,some 5,some 6,some 7,some 8,some 9,some 10,some 11] rfl rfl ?_ ?_<;>(repeat' (first|exact qg_ hpe rfl rfl|exact True.intro|exact rfl|exact Or.inl rfl|exact Or.inr rfl|refine And.intro ?_ ?_|fail)))),⟨hk2,fun j hj=>?_,⟨fun hwt=>?_,fun ⟨j,hj,hne⟩=>?_⟩⟩,by show (pr m i).out.length-(k+1)<(pr m i).out.length-k;omega⟩
   ·rcases Nat.lt_or_ge j k with h2|h2
    ·exact hno j h2
    ·obtain rfl:j=k:=by have:j<k+1:=hj;omega
     exact hcw
   ·obtain ⟨j,hj,hne⟩:=hw.1 hwt
    exact ⟨j,Nat.lt_succ_of_lt hj,hne⟩
   ·refine hw.2 ⟨j,?_,hne⟩
    rcases Nat.lt_or_ge j k with h2|h2
    ·exact h2
    ·obtain rfl:j=k:=by have:j<k+1:=hj;omega
     exact absurd he hne
  have hne:outK m i k≠[]:=by
   have h:=of_decide_eq_false (by assumption:decide (((outK m i k).length:Int)=0)=false)
   intro e
   rw [e] at h
   exact h rfl
  have hrl:=qh8_ h hk2
  have hrq:rdr m i k<m.pipes.length:=by rw [h.nq];exact hrl
  have hgq:(m.pipes.map pipeV)[rdr m i k]?=some (pipeV (qu m (rdr m i k))):=by
   unfold qu
   rw [List.getElem?_map,List.getElem?_eq_getElem hrq,List.getD_eq_getElem?_getD,List.getElem?_eq_getElem hrq]
   rfl
  have hqc:checkPipe (qu m (rdr m i k))=0:=by
   refine hq _ ?_
   unfold qu
   rw [List.getD_eq_getElem?_getD,List.getElem?_eq_getElem hrq]
   exact List.getElem_mem hrq
  have hlk:mget 0 u [(i:Int),(k:Int)]=(rdr m i k:Int):=by
   have:=hu (rdr m i k) hrl hrl
   have e:(allIns m.g)[rdr m i k]=⟨(i:Int),(k:Int)⟩:=List.getElem_idxOf hrl
   rw [e] at this
   exact this
  have hob:(outK m i k).length≤400000000:=by
   refine h.big _ (List.mem_append_right _ ?_)
   unfold outK
   rw [List.getD_eq_getElem?_getD,List.getElem?_eq_getElem hk2]
   exact List.getElem_mem hk2
  conv=>whnf
  refine ⟨0,rfl,?_⟩
  conv=>whnf
  repeat' first|refine ⟨rfl,?_⟩|fail
  refine ⟨rdr m i k,hlk,by rw [List.length_map];exact hrq,?_⟩
  conv=>whnf
  refine ⟨_,hgq,?_⟩
  skip
  refine ⟨qu m (rdr m i k),outK m i k,rfl,⟨hqc,hob⟩,?_⟩
  have hcan:canW m i k=true↔((wrtP (qu m (rdr m i k)) (outK m i k)).2.2=0∧0<(wrtP (qu m (rdr m i k)) (outK m i k)).2.1):=by
   unfold canW wrtP
   cases hcl:(qu m (rdr m i k)).closed<;>simp [hne,hqc]
  have hfail:canW m i k=false→(∀ j,j<k+1→canW m i j=false)∧(true=true↔∃ j,j<k+1∧outK m i j≠[]):=fun hcw=>by
   refine ⟨fun j hj=>?_,⟨fun _=>⟨k,by omega,hne⟩,fun _=>rfl⟩⟩
   rcases Nat.lt_or_ge j k with h2|h2
   ·exact hno j h2
   ·obtain rfl:j=k:=by omega
    exact hcw
  repeat' first|exact True.intro|(refine fun (b:Bool) hb=>?_;cases b<;>first|exact absurd hb (by decide)|exact nfl hb|exact nfr hb|skip)|refine And.intro (a:=I64 _) ?_ ?_|refine ⟨_,⟨rfl,rfl⟩,?_⟩|refine And.intro (a:=chkPast _ _ _ _ _ _ _ _) ?_ ?_|fail
  ·exact hI64
  ·have he:=of_decide_eq_false (by assumption:decide ((wrtP (qu m (rdr m i k)) (outK m i k)).2.2=0)=false)
   have hcw:canW m i k=false:=by
    cases hc:canW m i k with
    | false=>rfl
    | true=>exact absurd (hcan.1 hc).1 he
   conv=>whnf
   exact ⟨(k+1,true),(by (refine qc_ [some 0,some 1,some 2,some 3,some 4,some 5,some 6,some 7,some 8,some 9,some 10,some 11] rfl rfl ?_ ?_<;>(repeat' (first|exact qg_ hpe rfl rfl|exact True.intro|exact rfl|exact Or.inl rfl|exact Or.inr rfl|refine And.intro ?_ ?_|fail)))),⟨hk2,hfail hcw⟩,by show (pr m i).out.length-(k+1)<(pr m i).out.length-k;omega⟩
  ·exact hI64
  ·have he:=of_decide_eq_false (by assumption:decide (0<((wrtP (qu m (rdr m i k)) (outK m i k)).2.1:Int))=false)
   have hcw:canW m i k=false:=by
    cases hc:canW m i k with
    | false=>rfl
    | true=>have:=(hcan.1 hc).2;omega
   conv=>whnf
   exact ⟨(k+1,true),(by (refine qc_ [some 0,some 1,some 2,some 3,some 4,some 5,some 6,some 7,some 8,some 9,some 10,some 11] rfl rfl ?_ ?_<;>(repeat' (first|exact qg_ hpe rfl rfl|exact True.intro|exact rfl|exact Or.inl rfl|exact Or.inr rfl|refine And.intro ?_ ?_|fail)))),⟨hk2,hfail hcw⟩,by show (pr m i).out.length-(k+1)<(pr m i).out.length-k;omega⟩
  have he1:=of_decide_eq_true (by assumption:decide ((wrtP (qu m (rdr m i k)) (outK m i k)).2.2=0)=true)
  have he2:=of_decide_eq_true (by assumption:decide (0<((wrtP (qu m (rdr m i k)) (outK m i k)).2.1:Int))=true)
  have hcw:canW m i k=true:=hcan.2 ⟨he1,by omega⟩
  have hst:=qct_ ho hk2 hcw hno
  have hwp:wrtP (qu m (rdr m i k)) (outK m i k)=(takeP (qu m (rdr m i k)) (outK m i k),takeN (qu m (rdr m i k)) (outK m i k),0):=by
   unfold wrtP at he1 ⊢
   cases hcl:(qu m (rdr m i k)).closed with
   | true=>rw [hcl,if_pos rfl] at he1;exact absurd he1 (by decide)
   | false=>rw [if_neg (by decide)]
  have htl:takeN (qu m (rdr m i k)) (outK m i k)≤(outK m i k).length:=by
   unfold takeN
   split
   ·omega
   ·split<;>omega
  conv=>whnf
  apply Exists.intro
  apply And.intro
  ·conv=>whnf
   refine ⟨_,hei,?_⟩
   repeat' first|refine ⟨rfl,?_⟩|fail
   exact rfl
  conv=>whnf
  refine ⟨trivial,?_⟩
  conv=>whnf
  repeat' first|exact True.intro|refine ⟨_,⟨rfl,rfl⟩,?_⟩|refine And.intro (a:=chkPast _ _ _ _ _ _ _ _) ?_ ?_|fail
  conv=>whnf
  refine ⟨.sl byteV ((outK m i k).drop (wrtP (qu m (rdr m i k)) (outK m i k)).2.1),⟨fun _=>rfl,(wrtP (qu m (rdr m i k)) (outK m i k)).2.1,rfl,by rw [hwp];exact htl,rfl,rfl⟩,?_⟩
  conv=>whnf
  apply Exists.intro
  apply And.intro
  ·refine ⟨rfl,rdr m i k,hlk,by rw [List.length_map];exact hrq,?_⟩
   exact ⟨rfl,rfl⟩
  conv=>whnf
  refine ⟨trivial,?_⟩
  conv=>whnf
  apply Exists.intro
  apply Exists.intro
  apply And.intro
  ·conv=>whnf
   refine ⟨by rw [List.length_map];exact hrq,?_⟩
   exact ⟨rfl,rfl⟩
  conv=>whnf
  repeat' first|exact True.intro|refine And.intro (a:=chkPend _ _ _ _ _ _) ?_ ?_|fail
  conv=>whnf
  apply Exists.intro
  apply And.intro
  ·refine ⟨rfl,k,rfl,by rw [List.length_map];exact hk2,?_⟩
   exact ⟨rfl,rfl⟩
  conv=>whnf
  refine ⟨trivial,?_⟩
  conv=>whnf
  apply Exists.intro
  apply Exists.intro
  apply And.intro
  ·conv=>whnf
   refine ⟨by rw [List.length_map];exact hk2,?_⟩
   exact ⟨rfl,rfl⟩
  conv=>whnf
  repeat' first|exact True.intro|refine And.intro (a:=chkPend _ _ _ _ _ _) ?_ ?_|fail
  conv=>whnf
  have hfin:=hend (doW m i k) 0 ([.box [.ptr 0 0 0],.box [.own 7],.row 1 (frsN m.g m.g.length),.mp 47 3 .pair intV u,.box [.ptr 2 i 0],.box (nodeV m.g[i]).cells,.box [.fn 109 []],.box (pipeV (takeP (qu m (rdr m i k)) (outK m i k))).cells]) hst
  have hf:focR (doW m i k) i els=[.box [.sl nodeV m.g,.sl fileV m.f,.own 1,.own 2,.sl byteV m.sunk],.row 4 ((m.pipes.map pipeV).set (rdr m i k) (pipeV (takeP (qu m (rdr m i k)) (outK m i k)))),.rowq 5 (els.set i (procF (pr m i))),.row 1 ((pr m i).got.map blV),.row 1 (((pr m i).out.map blV).set k (blV ((outK m i k).drop (takeN (qu m (rdr m i k)) (outK m i k)))))]:=by
   rw [←List.map_set,←List.map_set]
   exact q2_ hmp
  rw [hf,←show (wrtP (qu m (rdr m i k)) (outK m i k)).1=takeP (qu m (rdr m i k)) (outK m i k) from by rw [hwp],←show (wrtP (qu m (rdr m i k)) (outK m i k)).2.1=takeN (qu m (rdr m i k)) (outK m i k) from by rw [hwp]] at hfin
  exact hfin
 have hwf:w=false:=by assumption
 have hkl:k=(pr m i).out.length:=by
  have h:=of_decide_eq_false (by assumption:decide ((k:Int)<(((pr m i).out.map blV).length:Int))=false)
  rw [List.length_map] at h
  omega
 subst hkl
 have hany:¬ (pr m i).out.any (fun b=>decide (b≠[]))=true:=fun e=>by
  rw [List.any_eq_true] at e
  obtain ⟨b,hb,hd⟩:=e
  obtain ⟨j,hj,rfl⟩:=List.getElem_of_mem hb
  have h2:=hw.2 ⟨j,hj,?_⟩
  ·rw [hwf] at h2;cases h2
  ·unfold outK
   rw [List.getD_eq_getElem?_getD,List.getElem?_eq_getElem hj]
   exact of_decide_eq_true hd
 conv=>whnf
 refine ⟨_,hei,?_⟩
 repeat' first|exact True.intro|(refine fun (b:Bool) hb=>?_;cases b<;>first|exact absurd hb (by decide)|exact nfl hb|exact nfr hb|skip)|(refine fun (hl:_≤MAXL)=>?_)|refine ⟨_,⟨rfl,rfl⟩,?_⟩|refine And.intro (a:=chkPast _ _ _ _ _ _ _ _) ?_ ?_|fail
 rotate_left
 ·have h0:m.g[i].ins.length=0 := by
   have h:=of_decide_eq_true (by assumption:decide ((m.g[i].ins.length:Int)=0)=true)
   omega
  have hr:(pr m i).read=false:=by assumption
  have hst:stepM m i=(fullM m i,0):=by
   unfold stepM
   rw [if_neg (by rw [ho];decide),if_neg hany,if_neg (by rw [hr];decide)]
   unfold readM
   rw [if_pos (by rw [hni];exact h0)]
  conv=>whnf
  refine ⟨m,i,els,u,rfl,h,by omega,by unfold side12;rw [hnd];rfl,fun a ex ha h1 h2=>?_⟩
  conv=>whnf
  exact hend2 _ _ a ex hst ha h1 h2
 ·have hr:(pr m i).read=true:=by assumption
  conv=>whnf
  refine ⟨_,hei,?_⟩
  repeat' first|(refine fun (hl:_≤MAXL)=>?_)|fail
  conv=>whnf
  refine qb_ [1,2,6,7,118] (σ:=Nat) (fun k=>[(119,.int .i64 k)]) (fun k=>[.box [.sl nodeV m.g,.sl fileV m.f,.own 1,.own 2,.sl byteV m.sunk],.row 4 ((closeQs m i k).map pipeV),.rowq 5 (els.set i (procF (pr m i))),.row 1 ((pr m i).got.map blV),.row 1 ((pr m i).out.map blV)]++[.box [.ptr 0 0 0],.box [.own 7],.row 1 (frsN m.g m.g.length),.mp 47 3 .pair intV u,.box [.ptr 2 i 0],.box (nodeV m.g[i]).cells,.box [.fn 109 []]]) (fun k=>k≤(pr m i).out.length∧∀ q∈closeQs m i k,checkPipe q=0) (fun k=>(pr m i).out.length-k) 0 ?_
  conv=>whnf
  refine ⟨(by (refine qc_ [some 0,some 1,some 2,some 3,some 4,some 5,some 6,some 7,some 8,some 9,some 10,some 11] rfl rfl ?_ ?_<;>(repeat' (first|exact qg_ hpe rfl rfl|exact True.intro|exact rfl|exact Or.inl rfl|exact Or.inr rfl|refine And.intro ?_ ?_|fail)))),⟨Nat.zero_le _,hq⟩,fun k hk=>?_⟩
  obtain ⟨hk,hqk⟩:=hk
  repeat' first|exact True.intro|(refine fun (b:Bool) hb=>?_;cases b<;>first|exact absurd hb (by decide)|exact nfl hb|exact nfr hb|skip)|refine ⟨_,⟨rfl,rfl⟩,?_⟩|refine And.intro (a:=chkPast _ _ _ _ _ _ _ _) ?_ ?_|fail
  ·have hkl:k=(pr m i).out.length := by
    have h:=of_decide_eq_false (by assumption:decide ((k:Int)<(((pr m i).out.map blV).length:Int))=false)
    rw [List.length_map] at h
    omega
   subst hkl
   have hst:stepM m i=(closeM m i,0):=by
    unfold stepM
    rw [if_neg (by rw [ho];decide),if_neg hany,if_pos hr]
   have hf:focR (closeM m i) i els=[.box [.sl nodeV m.g,.sl fileV m.f,.own 1,.own 2,.sl byteV m.sunk],.row 4 ((closeQs m i (pr m i).out.length).map pipeV),.rowq 5 (els.set i (procF ⟨(pr m i).got,(pr m i).pos,(pr m i).out,(pr m i).read,true⟩)),.row 1 ((pr m i).got.map blV),.row 1 ((pr m i).out.map blV)]:=q2_ hmp
   conv=>whnf
   refine qd_ [] (σ:=Unit) (fun _=>[]) (fun _=>[.box [.sl nodeV m.g,.sl fileV m.f,.own 1,.own 2,.sl byteV m.sunk],.row 4 ((closeQs m i (pr m i).out.length).map pipeV),.rowq 5 (els.set i (procF ⟨(pr m i).got,(pr m i).pos,(pr m i).out,(pr m i).read,true⟩)),.row 1 ((pr m i).got.map blV),.row 1 ((pr m i).out.map blV)]) (fun _=>True) ?_
   conv=>whnf
   refine ⟨?_,fun _ _=>?_⟩
   ·conv=>whnf
    refine ⟨_,hei,?_⟩
    conv=>whnf
    rw [List.set_set]
    refine ⟨(),?_,trivial⟩
    refine qc_ [some 0,some 1,some 2,some 3,some 4] rfl rfl ?_ ?_<;>(repeat' (first|exact ye_ hpe ⟨rfl,rfl,rfl,rfl,Or.inr rfl,trivial⟩|exact True.intro|exact rfl|exact Or.inl rfl|exact Or.inr rfl|refine And.intro ?_ ?_|fail))
    all_goals done
   conv=>whnf
   have hfin:=hend (closeM m i) 0 [] hst
   rw [hf] at hfin
   exact hfin
  have hk2:k<(pr m i).out.length:=by
   have h:=of_decide_eq_true (by assumption:decide ((k:Int)<(((pr m i).out.map blV).length:Int))=true)
   rw [List.length_map] at h
   omega
  have hrl:=qh8_ h hk2
  have hlen:=yu_ m i k
  have hrq:rdr m i k<(closeQs m i k).length:=by rw [hlen,h.nq];exact hrl
  obtain ⟨q,hqe⟩:∃ q,(closeQs m i k).getD (rdr m i k) zP=q:=⟨_,rfl⟩
  have hqm:q∈closeQs m i k:=by
   rw [←hqe,List.getD_eq_getElem?_getD,List.getElem?_eq_getElem hrq]
   exact List.getElem_mem hrq
  have hgq:((closeQs m i k).map pipeV)[rdr m i k]?=some (pipeV q):=by
   rw [List.getElem?_map,List.getElem?_eq_getElem hrq,←hqe,List.getD_eq_getElem?_getD,List.getElem?_eq_getElem hrq]
   rfl
  have hlk:mget 0 u [(i:Int),(k:Int)]=(rdr m i k:Int):=by
   have:=hu (rdr m i k) hrl hrl
   have e:(allIns m.g)[rdr m i k]=⟨(i:Int),(k:Int)⟩:=List.getElem_idxOf hrl
   rw [e] at this
   exact this
  have hst:closeQs m i (k+1)=(closeQs m i k).set (rdr m i k) ⟨q.b,q.room,true,q.shut⟩:=by
   show (closeQs m i k).set (rdr m i k) (closeP ((closeQs m i k).getD (rdr m i k) zP))=_
   rw [hqe]
   unfold closeP
   rw [if_pos (hqk q hqm)]
  conv=>whnf
  refine ⟨_,⟨0,rfl,rfl,rfl⟩,?_⟩
  conv=>whnf
  repeat' first|exact True.intro|refine And.intro (a:=chkPast _ _ _ _ _ _ _ _) ?_ ?_|fail
  conv=>whnf
  apply Exists.intro
  apply And.intro
  ·refine ⟨rfl,rdr m i k,hlk,by rw [List.length_map];exact hrq,?_⟩
   exact ⟨rfl,rfl⟩
  conv=>whnf
  refine ⟨trivial,?_⟩
  conv=>whnf
  repeat' first|refine ⟨_,⟨rfl,rfl⟩,?_⟩|fail
  apply Exists.intro
  apply Exists.intro
  apply And.intro
  ·conv=>whnf
   refine ⟨_,hgq,?_⟩
   exact ⟨rfl,rfl⟩
  conv=>whnf
  repeat' first|exact True.intro|refine And.intro (a:=I64 _) ?_ ?_|refine And.intro (a:=chkPend _ _ _ _ _ _) ?_ ?_|fail
  conv=>whnf
  skip
  ·have hM:((pr m i).out.map blV).length≤MAXL:=by assumption
   rw [List.length_map] at hM
   unfold MAXL at hM;(try unfold I64);omega
  conv=>whnf
  refine ⟨k+1,?_,⟨hk2,fun x hx=>?_⟩,by omega⟩
  ·show Wk _ _ _ _ ([.box [.sl nodeV m.g,.sl fileV m.f,.own 1,.own 2,.sl byteV m.sunk],.row 4 ((closeQs m i (k+1)).map pipeV),.rowq 5 (els.set i (procF (pr m i))),.row 1 ((pr m i).got.map blV),.row 1 ((pr m i).out.map blV)]++[.box [.ptr 0 0 0],.box [.own 7],.row 1 (frsN m.g m.g.length),.mp 47 3 .pair intV u,.box [.ptr 2 i 0],.box (nodeV m.g[i]).cells,.box [.fn 109 []]])
   rw [hst]
   exact (wk_le 1 rfl qml_).trans (by (refine qc_ [some 0,some 1,some 2,some 3,some 4,some 5,some 6,some 7,some 8,some 9,some 10,some 11] rfl rfl ?_ ?_<;>(repeat' (first|exact qg_ hpe rfl rfl|exact True.intro|exact rfl|exact Or.inl rfl|exact Or.inr rfl|refine And.intro ?_ ?_|fail))))
  ·rw [hst] at hx
   rcases List.mem_or_eq_of_mem_set hx with hx|rfl
   ·exact hqk x hx
   ·have:=hqk q hqm
    unfold checkPipe at this ⊢
    exact this
 have hr:(pr m i).read=false:=by assumption
 have h0:¬ m.g[i].ins.length=0:=by
  have h:=of_decide_eq_false (by assumption:decide ((m.g[i].ins.length:Int)=0)=false)
  omega
 have hpL:(pr m i).pos<(m.g[i].ins.length:Int):=by
  rcases hp1 with h1|h1|h1
  ·rw [hr] at h1;cases h1
  ·rw [hni] at h1;exact absurd h1 h0
  ·rw [hni] at h1;exact h1
 obtain ⟨ps,hps⟩:∃ ps:Nat,(pr m i).pos=ps:=⟨(pr m i).pos.toNat,by omega⟩
 have hpsl:ps<m.g[i].ins.length:=by omega
 have hst:∀ o,readM m i=o→stepM m i=match o with|some m'=>(m',0)|none=>(m,8):=fun o ho2=>by
  unfold stepM
  rw [if_neg (by rw [ho];decide),if_neg hany,if_neg (by rw [hr];decide),ho2]
  cases o<;>rfl
 have hpos:(pr m i).pos.toNat=ps:=by rw [hps];rfl
 have hxl:insB m.g i+ps<m.pipes.length:=by
  have h1:=zs_ hlt
  have h2:=xb_ (N:=m.g) (i:=i+1) (j:=m.g.length) (by omega) (Nat.le_refl _)
  rw [zt_] at h2
  rw [h.nq]
  omega
 obtain ⟨q,hqe⟩:∃ q,qu m (insB m.g i+ps)=q:=⟨_,rfl⟩
 have hgq:(m.pipes.map pipeV)[insB m.g i+ps]?=some (pipeV q):=by
  rw [←hqe]
  unfold qu
  rw [List.getElem?_map,List.getElem?_eq_getElem hxl,List.getD_eq_getElem?_getD,List.getElem?_eq_getElem hxl]
  rfl
 have hrd:readM m i=if q.b≠[] then some (cameM (setQ m (insB m.g i+ps) ⟨q.b.drop 8,q.room,q.closed,q.shut⟩) i (q.b.take 8)) else if q.closed=false then none else if (pr m i).pos+1=(nI m.g i:Int) then some (fullM (setP m i (nextP (pr m i))) i) else some (setP m i (nextP (pr m i))):=by
  unfold readM
  dsimp only
  rw [if_neg (by rw [hni];exact h0),hpos,hqe]
 conv=>whnf
 apply Exists.intro
 apply And.intro
 ·conv=>whnf
  refine ⟨_,hei,?_⟩
  repeat' first|refine ⟨rfl,?_⟩|fail
  exact rfl
 conv=>whnf
 refine ⟨trivial,?_⟩
 conv=>whnf
 apply Exists.intro
 apply Exists.intro
 apply And.intro
 ·conv=>whnf
  refine ⟨rfl,i,rfl,by rw [x8_];exact hlt,?_⟩
  conv=>whnf
  refine ⟨_,qc5_ hlt,?_⟩
  rw [if_pos hlt]
  repeat' first|refine And.intro (a:=I64 _) ?_ ?_|refine ⟨rfl,?_⟩|fail
  ·have:=qq_ h.g
   have h1:=xb_ (N:=m.g) (i:=i) (j:=m.g.length) (by omega) (Nat.le_refl _)
   rw [zt_] at h1
   have hi5:=z7_ (hgf.node i hlt)
   rw [hnd] at hi5
   unfold I64;omega
  ·rfl
 conv=>whnf
 repeat' first|exact True.intro|refine And.intro (a:=chkPend _ _ _ _ _ _) ?_ ?_|refine ⟨⟨rfl,rfl⟩,?_⟩|fail
 apply Exists.intro
 apply And.intro
 ·refine ⟨rfl,insB m.g i+ps,by rw [hps,Int.natCast_add],by rw [List.length_map];exact hxl,?_⟩
  exact ⟨rfl,rfl⟩
 conv=>whnf
 refine ⟨trivial,?_⟩
 conv=>whnf
 repeat' first|refine ⟨_,⟨rfl,rfl⟩,?_⟩|fail
 conv=>whnf
 refine ⟨_,hgq,?_⟩
 repeat' first|(refine fun (b:Bool) hb=>?_;cases b<;>first|exact absurd hb (by decide)|exact nfl hb|exact nfr hb|skip)|(refine fun (hl:_≤MAXL)=>?_)|fail
 rotate_left
 ·have hb0:q.b=[] := by
   have h:=of_decide_eq_true (by assumption:decide ((q.b.length:Int)=0)=true)
   exact List.length_eq_zero_iff.1 (by omega)
  rw [if_neg (fun h=>h hb0)] at hrd
  have hpm:pr (setP m i (nextP (pr m i))) i=nextP (pr m i):=by rw [z9_ hmp,if_pos rfl]
  have e1:focR (setP m i (nextP (pr m i))) i els=[.box [.sl nodeV m.g,.sl fileV m.f,.own 1,.own 2,.sl byteV m.sunk],.row 4 (m.pipes.map pipeV),.rowq 5 (els.set i (procF (nextP (pr m i)))),.row 1 ((pr m i).got.map blV),.row 1 ((pr m i).out.map blV)]:=q2_ hmp
  have hset:∀ x y:V,(els.set i x).set i y=els.set i y:=fun x y=>by rw [List.set_set]
  conv=>whnf
  refine ⟨_,hgq,?_⟩
  repeat' first|(refine fun (b:Bool) hb=>?_;cases b<;>first|exact absurd hb (by decide)|exact nfl hb|exact nfr hb|skip)|fail
  ·have hcl:q.closed=true:=by simpa using ‹(!q.closed)=false›
   rw [if_neg (by rw [hcl];decide)] at hrd
   conv=>whnf
   refine ⟨_,hei,?_⟩
   repeat' first|refine And.intro (a:=I64 _) ?_ ?_|fail
   ·have hi5:=z7_ (hgf.node i hlt)
    rw [hnd] at hi5
    unfold I64;omega
   conv=>whnf
   refine ⟨_,hei,?_⟩
   conv=>whnf
   rw [hset]
   repeat' first|exact True.intro|refine ⟨_,⟨rfl,rfl⟩,?_⟩|refine And.intro (a:=chkPast _ _ _ _ _ _ _ _) ?_ ?_|fail
   conv=>whnf
   apply Exists.intro
   apply And.intro
   ·conv=>whnf
    refine ⟨_,List.getElem?_set_self (by rw [h.nl];exact hlt),?_⟩
    repeat' first|refine ⟨rfl,?_⟩|fail
    exact rfl
   conv=>whnf
   refine ⟨trivial,?_⟩
   conv=>whnf
   repeat' first|exact True.intro|(refine fun (b:Bool) hb=>?_;cases b<;>first|exact absurd hb (by decide)|exact nfl hb|exact nfr hb|skip)|refine ⟨_,⟨rfl,rfl⟩,?_⟩|refine ⟨_,(fun _=>⟨rfl,rfl⟩),?_⟩|refine And.intro (a:=chkPast _ _ _ _ _ _ _ _) ?_ ?_|fail
   ·have hne:=of_decide_eq_false (by assumption:decide ((pr m i).pos+1=(m.g[i].ins.length:Int))=false)
    rw [if_neg (by rw [hni];exact hne)] at hrd
    conv=>whnf
    have hfin:=hend (setP m i (nextP (pr m i))) 0 ([.box [.ptr 0 0 0],.box [.own 7],.row 1 (frsN m.g m.g.length),.mp 47 3 .pair intV u,.box [.ptr 2 i 0],.box (nodeV m.g[i]).cells,.box [.fn 109 []]]) (hst _ hrd)
    rw [e1] at hfin
    exact hfin
   ·have hne:=of_decide_eq_true (by assumption:decide ((pr m i).pos+1=(m.g[i].ins.length:Int))=true)
    rw [if_pos (by rw [hni];exact hne)] at hrd
    have hF':FocOK (setP m i (nextP (pr m i))) i els:=⟨h.g,h.f,by show (m.p.set i _).length=_;rw [List.length_set];exact h.np,h.nq,h.lt,h.nl,by rw [hpm];exact h.got,by rw [hpm];exact h.out,h.room,h.pe,by rw [hpm];exact h.big⟩
    conv=>whnf
    refine ⟨setP m i (nextP (pr m i)),i,els,u,rfl,hF',by rw [hpm];show (pr m i).got.flatten.length≤_;omega,?_,fun a ex ha h1 h2=>?_⟩
    ·rw [e1]
     show _=_++side12 109 47 3 m i u
     unfold side12
     rw [hnd]
     rfl
    conv=>whnf
    exact hend2 _ _ a ex (hst _ hrd) ha h1 h2
  ·have hcl:q.closed=false:=by simpa using ‹(!q.closed)=true›
   rw [if_pos hcl] at hrd
   conv=>whnf
   exact hend m 8 _ (hst _ hrd)
 have hbn:q.b≠[]:=by
  have h:=of_decide_eq_false (by assumption:decide ((q.b.length:Int)=0)=false)
  intro e
  rw [e] at h
  exact h rfl
 rw [if_pos hbn] at hrd
 conv=>whnf
 refine ⟨_,hgq,?_⟩
 conv=>whnf
 refine qd_ [2,7,8,9,10,19] (σ:=Unit) (fun _=>[(20,.sl byteV (q.b.take 8))]) (fun _=>[.box [.sl nodeV m.g,.sl fileV m.f,.own 1,.own 2,.sl byteV m.sunk],.row 4 (m.pipes.map pipeV),.rowq 5 (els.set i (procF (pr m i))),.row 1 ((pr m i).got.map blV),.row 1 ((pr m i).out.map blV)]++[.box [.ptr 0 0 0],.box [.own 7],.row 1 (frsN m.g m.g.length),.mp 47 3 .pair intV u,.box [.ptr 2 i 0],.box (nodeV m.g[i]).cells,.box [.fn 109 []]]) (fun _=>True) ?_
 conv=>whnf
 refine ⟨?_,fun _ _=>?_⟩
 ·repeat' first|(refine fun (b:Bool) hb=>?_;cases b<;>first|exact absurd hb (by decide)|exact nfl hb|exact nfr hb|skip)|(refine fun (hl:_≤MAXL)=>?_)|refine ⟨(fun _=>rfl),?_⟩|fail
  ·have h8:=of_decide_eq_false (by assumption:decide (8<(q.b.length:Int))=false)
   have e:q.b.take 8=q.b:=List.take_of_length_le (by omega)
   conv=>whnf
   refine ⟨(),?_,trivial⟩
   rw [e]
   exact (by (refine qc_ [some 0,some 1,some 2,some 3,some 4,some 5,some 6,some 7,some 8,some 9,some 10,some 11] rfl rfl ?_ ?_<;>(repeat' (first|exact qg_ hpe rfl rfl|exact True.intro|exact rfl|exact Or.inl rfl|exact Or.inr rfl|refine And.intro ?_ ?_|fail))))
  ·have h8:=of_decide_eq_true (by assumption:decide (8<(q.b.length:Int))=true)
   conv=>whnf
   refine ⟨8,rfl,by omega,?_⟩
   exact ⟨(),(by (refine qc_ [some 0,some 1,some 2,some 3,some 4,some 5,some 6,some 7,some 8,some 9,some 10,some 11] rfl rfl ?_ ?_<;>(repeat' (first|exact qg_ hpe rfl rfl|exact True.intro|exact rfl|exact Or.inl rfl|exact Or.inr rfl|refine And.intro ?_ ?_|fail)))),trivial⟩
 have hdr:q.b.drop (q.b.take 8).length=q.b.drop 8:=by
  rw [List.length_take]
  rcases Nat.lt_or_ge q.b.length 8 with h8|h8
  ·rw [Nat.min_eq_right (by omega),List.drop_length,List.drop_eq_nil_of_le (by omega)]
  ·rw [Nat.min_eq_left h8]
 have hql:q.b.length≤400000000:=by
  refine h.room q ?_
  rw [←hqe]
  unfold qu
  rw [List.getD_eq_getElem?_getD,List.getElem?_eq_getElem hxl]
  exact List.getElem_mem hxl
 conv=>whnf
 refine ⟨_,hgq,?_⟩
 repeat' first|(refine fun (hl:_≤MAXL)=>?_)|refine ⟨(fun _=>rfl),?_⟩|fail
 conv=>whnf
 refine ⟨(q.b.take 8).length,rfl,by rw [List.length_take];omega,?_⟩
 rw [hdr]
 repeat' first|refine ⟨_,_,_,LeL.refl _,?_⟩|refine And.intro (a:=_≤140737488355328) ?_ ?_|refine ⟨(fun _=>rfl),?_⟩|fail
 ·show (0+((q.b.drop 8).map byteV).length)*1≤_
  rw [List.length_map,List.length_drop];omega
 conv=>whnf
 refine ⟨_,hgq,?_⟩
 conv=>whnf
 repeat' first|exact True.intro|refine ⟨_,⟨rfl,rfl⟩,?_⟩|refine And.intro (a:=chkPast _ _ _ _ _ _ _ _) ?_ ?_|fail
 have hgl:ps<(pr m i).got.length:=by rw [h.got,hni];exact hpsl
 have hgg:((pr m i).got.map blV)[ps]?=some (blV (gotK m i ps)):=by
  unfold gotK
  rw [List.getElem?_map,List.getElem?_eq_getElem hgl,List.getD_eq_getElem?_getD,List.getElem?_eq_getElem hgl];rfl
 have hgb:(gotK m i ps).length≤400000000:=by
  refine h.big _ (List.mem_append_left _ ?_)
  unfold gotK
  rw [List.getD_eq_getElem?_getD,List.getElem?_eq_getElem hgl]
  exact List.getElem_mem hgl
 conv=>whnf
 apply Exists.intro
 apply And.intro
 ·conv=>whnf
  refine ⟨_,hei,?_⟩
  repeat' first|refine ⟨rfl,?_⟩|fail
  exact rfl
 conv=>whnf
 refine ⟨trivial,?_⟩
 conv=>whnf
 repeat' first|exact True.intro|refine ⟨_,⟨rfl,rfl⟩,?_⟩|refine And.intro (a:=chkPast _ _ _ _ _ _ _ _) ?_ ?_|fail
 conv=>whnf
 apply Exists.intro
 apply And.intro
 ·conv=>whnf
  refine ⟨_,hei,?_⟩
  repeat' first|refine ⟨rfl,?_⟩|fail
  exact rfl
 conv=>whnf
 refine ⟨trivial,?_⟩
 conv=>whnf
 apply Exists.intro
 apply And.intro
 ·refine ⟨rfl,ps,hps,by rw [List.length_map];exact hgl,?_⟩
  exact ⟨rfl,rfl⟩
 conv=>whnf
 refine ⟨trivial,?_⟩
 conv=>whnf
 repeat' first|refine ⟨_,⟨rfl,rfl⟩,?_⟩|fail
 apply Exists.intro
 apply Exists.intro
 apply And.intro
 ·conv=>whnf
  refine ⟨_,hgg,?_⟩
  repeat' first|refine And.intro (a:=_≤140737488355328) ?_ ?_|refine ⟨(fun _=>rfl),?_⟩|fail
  ·show (0+((gotK m i ps).map byteV).length)*1≤_
   rw [List.length_map];omega
  ·show (([]++(gotK m i ps).map byteV).length+((q.b.take 8).map byteV).length)*1≤_
   rw [List.nil_append,List.length_map,List.length_map,List.length_take];omega
  conv=>whnf
  refine ⟨UInt8,byteV,gotK m i ps++q.b.take 8,LeL.of (by simp),?_⟩
  conv=>whnf
  refine ⟨by rw [List.length_map];exact hgl,?_⟩
  exact ⟨rfl,rfl⟩
 conv=>whnf
 repeat' first|exact True.intro|refine And.intro (a:=chkPend _ _ _ _ _ _) ?_ ?_|fail
 obtain ⟨x,hx⟩:∃ x,gotK m i ps++q.b.take 8=x:=⟨_,rfl⟩
 have hxl2:x.length≤400000008:=by rw [←hx,List.length_append,List.length_take];omega
 conv=>whnf
 refine qd_ [2,7,8,9,10,19] (σ:=Unit) (fun _=>[(21,.sl byteV x)]) (fun _=>[.box [.sl nodeV m.g,.sl fileV m.f,.own 1,.own 2,.sl byteV m.sunk],.row 4 ((m.pipes.map pipeV).set (insB m.g i+ps) (pipeV ⟨q.b.drop 8,q.room,q.closed,q.shut⟩)),.rowq 5 (els.set i (procF (pr m i))),.row 1 (((pr m i).got.map blV).set ps (blV x)),.row 1 ((pr m i).out.map blV)]++[.box [.ptr 0 0 0],.box [.own 7],.row 1 (frsN m.g m.g.length),.mp 47 3 .pair intV u,.box [.ptr 2 i 0],.box (nodeV m.g[i]).cells,.box [.fn 109 []]]) (fun _=>True) ?_
 conv=>whnf
 refine ⟨?_,fun _ _=>?_⟩
 ·rw [hx]
  conv=>whnf
  repeat' first|exact True.intro|refine ⟨_,⟨rfl,rfl⟩,?_⟩|refine And.intro (a:=chkPast _ _ _ _ _ _ _ _) ?_ ?_|fail
  conv=>whnf
  apply Exists.intro
  apply And.intro
  ·conv=>whnf
   refine ⟨_,hei,?_⟩
   repeat' first|refine ⟨rfl,?_⟩|fail
   exact rfl
  conv=>whnf
  refine ⟨trivial,?_⟩
  conv=>whnf
  repeat' first|exact True.intro|refine ⟨_,⟨rfl,rfl⟩,?_⟩|refine And.intro (a:=chkPast _ _ _ _ _ _ _ _) ?_ ?_|fail
  conv=>whnf
  apply Exists.intro
  apply And.intro
  ·conv=>whnf
   refine ⟨_,hei,?_⟩
   repeat' first|refine ⟨rfl,?_⟩|fail
   exact rfl
  conv=>whnf
  refine ⟨trivial,?_⟩
  conv=>whnf
  apply Exists.intro
  apply And.intro
  ·refine ⟨rfl,ps,hps,by rw [List.length_set,List.length_map];exact hgl,?_⟩
   exact ⟨rfl,rfl⟩
  conv=>whnf
  refine ⟨trivial,?_⟩
  conv=>whnf
  apply Exists.intro
  apply And.intro
  ·conv=>whnf
   refine ⟨_,List.getElem?_set_self (by rw [List.length_map];exact hgl),?_⟩
   exact ⟨rfl,rfl⟩
  conv=>whnf
  refine ⟨trivial,?_⟩
  conv=>whnf
  repeat' first|refine ⟨_,⟨rfl,rfl⟩,?_⟩|fail
  exact ⟨(),(by (refine qc_ [some 0,some 1,some 2,some 3,some 4,some 5,some 6,some 7,some 8,some 9,some 10,some 11] rfl rfl ?_ ?_<;>(repeat' (first|exact qg_ hpe rfl rfl|exact True.intro|exact rfl|exact Or.inl rfl|exact Or.inr rfl|refine And.intro ?_ ?_|fail)))),trivial⟩
 conv=>whnf
 refine qd_ [2,7,8,9,10,19,21] (σ:=Unit) (fun _=>[(22,.int .i64 (feeds x:Nat)),(23,.int .i64 ((comp x).length:Nat))]) (fun _=>[.box [.sl nodeV m.g,.sl fileV m.f,.own 1,.own 2,.sl byteV m.sunk],.row 4 ((m.pipes.map pipeV).set (insB m.g i+ps) (pipeV ⟨q.b.drop 8,q.room,q.closed,q.shut⟩)),.rowq 5 (els.set i (procF (pr m i))),.row 1 (((pr m i).got.map blV).set ps (blV x)),.row 1 ((pr m i).out.map blV)]++[.box [.ptr 0 0 0],.box [.own 7],.row 1 (frsN m.g m.g.length),.mp 47 3 .pair intV u,.box [.ptr 2 i 0],.box (nodeV m.g[i]).cells,.box [.fn 109 []]]) (fun _=>True) ?_
 conv=>whnf
 refine ⟨?_,fun _ _=>?_⟩
 ·repeat' first|(refine fun (hl:_≤MAXL)=>?_)|fail
  conv=>whnf
  refine qb_ [2,7,8,9,10,19,21,227,228] (σ:=Nat) (fun k=>[(229,.int .i64 k),(22,.int .i64 (feeds (x.take k):Nat)),(23,.int .i64 ((comp (x.take k)).length:Nat))]) (fun _=>[.box [.sl nodeV m.g,.sl fileV m.f,.own 1,.own 2,.sl byteV m.sunk],.row 4 ((m.pipes.map pipeV).set (insB m.g i+ps) (pipeV ⟨q.b.drop 8,q.room,q.closed,q.shut⟩)),.rowq 5 (els.set i (procF (pr m i))),.row 1 (((pr m i).got.map blV).set ps (blV x)),.row 1 ((pr m i).out.map blV)]++[.box [.ptr 0 0 0],.box [.own 7],.row 1 (frsN m.g m.g.length),.mp 47 3 .pair intV u,.box [.ptr 2 i 0],.box (nodeV m.g[i]).cells,.box [.fn 109 []]]) (fun k=>k≤x.length) (fun k=>x.length-k) 0 ?_
  conv=>whnf
  refine ⟨(by (refine qc_ [some 0,some 1,some 2,some 3,some 4,some 5,some 6,some 7,some 8,some 9,some 10,some 11] rfl rfl ?_ ?_<;>(repeat' (first|exact qg_ hpe rfl rfl|exact True.intro|exact rfl|exact Or.inl rfl|exact Or.inr rfl|refine And.intro ?_ ?_|fail)))),Nat.zero_le _,fun k hk=>?_⟩
  repeat' first|(refine fun (b:Bool) hb=>?_;cases b<;>first|exact absurd hb (by decide)|exact nfl hb|exact nfr hb|skip)|refine And.intro (a:=I64 _) ?_ ?_|refine ⟨_,rfl,?_,rfl,?_⟩|fail
  ·have hkl:k=x.length := by
    have h:=of_decide_eq_false (by assumption:decide ((k:Int)<(x.length:Int))=false)
    omega
   subst hkl
   conv=>whnf
   refine ⟨(),?_,trivial⟩
   rw [List.take_length]
   exact (by (refine qc_ [some 0,some 1,some 2,some 3,some 4,some 5,some 6,some 7,some 8,some 9,some 10,some 11] rfl rfl ?_ ?_<;>(repeat' (first|exact qg_ hpe rfl rfl|exact True.intro|exact rfl|exact Or.inl rfl|exact Or.inr rfl|refine And.intro ?_ ?_|fail))))
  all_goals
   have hk2:k<x.length:=by
    have h:=of_decide_eq_true (by assumption:decide ((k:Int)<(x.length:Int))=true)
    omega
   have hfl:feeds (x.take k)≤k:=by
    have:=List.count_le_length (a:=(10:UInt8)) (l:=x.take k)
    rw [List.length_take] at this
    unfold feeds
    omega
   have hfs:feeds (x.take (k+1))=feeds (x.take k)+if x[k]=10 then 1 else 0:=by
    unfold feeds
    rw [List.take_succ_eq_append_getElem hk2,List.count_append,List.count_singleton]
    simp
   have hcs:comp (x.take (k+1))=if x[k]=10 then x.take k++[x[k]] else comp (x.take k):=by
    rw [List.take_succ_eq_append_getElem hk2]
    exact qms_ _ _
  ·exact hk2
  ·unfold I64;omega
  ·have hn:¬ x[k]=10 := fun e => by
    have h:=of_decide_eq_false (by assumption:decide ((x[k].toNat:Int)=10)=false)
    rw [e] at h
    exact h rfl
   rw [if_neg hn] at hfs hcs
   have hA:V.int .i64 ((feeds (x.take (k+1)):Nat):Int)=V.int .i64 ((feeds (x.take k):Nat):Int):=by rw [hfs];rfl
   have hB:V.int .i64 (((comp (x.take (k+1))).length:Nat):Int)=V.int .i64 (((comp (x.take k)).length:Nat):Int):=by rw [hcs]
   conv=>whnf
   refine ⟨k+1,?_,hk2,by omega⟩
   refine qc_ [some 0,some 1,some 2,some 3,some 4,some 5,some 6,some 7,some 8,some 9,some 10,some 11] rfl rfl ?_ ?_<;>(repeat' (first|exact qg_ hpe rfl rfl|exact hA|exact hB|exact True.intro|exact rfl|exact Or.inl rfl|exact Or.inr rfl|refine And.intro ?_ ?_|fail))
  ·unfold I64;omega
  ·unfold I64;omega
  ·unfold I64;omega
  ·have hn:x[k]=10 := by
    have h:=of_decide_eq_true (by assumption:decide ((x[k].toNat:Int)=10)=true)
    exact UInt8.toNat_inj.1 (show x[k].toNat=(10:UInt8).toNat by have:(10:UInt8).toNat=10:=rfl;omega)
   rw [if_pos hn] at hfs hcs
   have hcl:(comp (x.take (k+1))).length=k+1:=by
    rw [hcs,List.length_append,List.length_take,List.length_singleton]
    omega
   have hA:V.int .i64 ((feeds (x.take (k+1)):Nat):Int)=V.int .i64 (((feeds (x.take k):Nat):Int)+1):=by rw [hfs];rfl
   have hB:V.int .i64 (((comp (x.take (k+1))).length:Nat):Int)=V.int .i64 ((k:Int)+1):=by rw [hcl];rfl
   conv=>whnf
   refine ⟨k+1,?_,hk2,by omega⟩
   refine qc_ [some 0,some 1,some 2,some 3,some 4,some 5,some 6,some 7,some 8,some 9,some 10,some 11] rfl rfl ?_ ?_<;>(repeat' (first|exact qg_ hpe rfl rfl|exact hA|exact hB|exact True.intro|exact rfl|exact Or.inl rfl|exact Or.inr rfl|refine And.intro ?_ ?_|fail))
 have hcr:=qag_ x
 have htk:x.take (comp x).length=comp x:=by
  have:(comp x++rest x).take (comp x).length=comp x:=List.take_left
  rwa [hcr] at this
 have hdp:x.drop (comp x).length=rest x:=by
  have:(comp x++rest x).drop (comp x).length=rest x:=List.drop_left
  rwa [hcr] at this
 have hcxl:(comp x).length≤x.length:=by
  have:=congrArg List.length hcr
  rw [List.length_append] at this
  omega
 obtain ⟨m1,hm1⟩:∃ m1,setQ m (insB m.g i+ps) ⟨q.b.drop 8,q.room,q.closed,q.shut⟩=m1:=⟨_,rfl⟩
 rw [hm1] at hrd
 have hstM:stepM m i=(cameM m1 i (q.b.take 8),0):=hst _ hrd
 have g1:m1.g=m.g:=by rw [←hm1];rfl
 have p1:pr m1 i=pr m i:=by rw [←hm1];rfl
 have hx1:gotK m1 i ps++q.b.take 8=x:=by rw [←hx,←hm1];rfl
 have hk1:(pr m1 i).pos.toNat=ps:=by rw [p1,hpos]
 have n1:ndG m1.g i=m.g[i]:=by rw [g1,hnd]
 have hmp1:i<m1.p.length:=by rw [←hm1];exact hmp
 conv=>whnf
 refine qc8_ ?_
 conv=>whnf
 have hnone:∀ (hk5:¬ m.g[i].kind=5) (hbe:¬ (isBeh m.g[i]=true∨isEach m.g[i]=true)) (hhd:¬ (isHead m.g[i]=true∧m.g[i].c.n≤(feeds x:Int))) (ex:Rows),K (.int .i64 0) ([.box [.sl nodeV m.g,.sl fileV m.f,.own 1,.own 2,.sl byteV m.sunk],.row 4 ((m.pipes.map pipeV).set (insB m.g i+ps) (pipeV ⟨q.b.drop 8,q.room,q.closed,q.shut⟩)),.rowq 5 (els.set i (procF (pr m i))),.row 1 (((pr m i).got.map blV).set ps (blV x)),.row 1 ((pr m i).out.map blV)]++ex):=fun hk5 hbe hhd ex=>by
  have e:=qez_ (m:=m1) (i:=i) (b:=q.b.take 8) (k:=ps) hk1 (by rw [n1];exact hk5) (by rw [n1];exact hbe) (by rw [n1,hx1];exact hhd)
  rw [e] at hstM
  have hfin:=hend _ 0 ex hstM
  rw [q2_ hmp1,hx1,p1,←hm1] at hfin
  unfold setQ setGot at hfin
  dsimp only at hfin
  rw [List.map_set,List.map_set] at hfin
  exact hfin
 repeat' first|exact True.intro|(refine fun (b:Bool) hb=>?_;cases b<;>first|exact absurd hb (by decide)|exact nfl hb|exact nfr hb|skip)|refine ⟨_,⟨rfl,rfl⟩,?_⟩|refine And.intro (a:=chkPast _ _ _ _ _ _ _ _) ?_ ?_|fail
 all_goals first|(refine qb7_ (p:=m.g[i].kind=3) ?_ ?_<;>assumption)|(refine qut_ (k:=m.g[i].kind) ?_ ?_<;>assumption)|skip
 all_goals have hbe0 : ¬ (m.g[i].kind = 4 ∧ m.g[i].how = 1) → ¬ (m.g[i].kind = 3 ∧ Gp.each m.g[i].c = true) → ¬ (isBeh m.g[i] = true ∨ isEach m.g[i] = true) := fun a b h => by
             unfold isBeh isEach at h
             simp only [Bool.and_eq_true,decide_eq_true_eq] at h
             exact h.elim a b
 ·have hk5:¬ m.g[i].kind=5:=of_decide_eq_false (by assumption)
  have hk4:¬ m.g[i].kind=4:=of_decide_eq_false (by assumption)
  have hk3:¬ m.g[i].kind=3:=of_decide_eq_false (by assumption)
  conv=>whnf
  refine WkE.of ⟨fun _ _ _ _ _ _ _ _ S=>S⟩ ?_
  conv=>whnf
  exact hnone hk5 (hbe0 (fun h=>hk4 h.1) (fun h=>hk3 h.1)) (fun h=>by unfold isHead at h;simp only [Bool.and_eq_true,decide_eq_true_eq] at h;exact hk3 h.1.1) _
 ·have hk5:¬ m.g[i].kind=5:=of_decide_eq_false (by assumption)
  have hk4:¬ m.g[i].kind=4:=of_decide_eq_false (by assumption)
  have hk3:m.g[i].kind=3:=of_decide_eq_true (by assumption)
  conv=>whnf
  refine ⟨m.g[i].c,rfl,?_⟩
  repeat' first|exact True.intro|(refine fun (b:Bool) hb=>?_;cases b<;>first|exact absurd hb (by decide)|exact nfl hb|exact nfr hb|skip)|refine ⟨_,⟨rfl,rfl⟩,?_⟩|refine And.intro (a:=chkPast _ _ _ _ _ _ _ _) ?_ ?_|fail
  all_goals first|(refine qb7_ (p:=m.g[i].kind=3) (decide_eq_true hk3) ?_<;>assumption)|skip
  ·have he:Gp.each m.g[i].c=false:=by assumption
   have hc9:¬ m.g[i].c.kind=9:=of_decide_eq_false (by assumption)
   conv=>whnf
   refine WkE.of ⟨fun _ _ _ _ _ _ _ _ S=>S⟩ ?_
   conv=>whnf
   exact hnone hk5 (hbe0 (fun h=>hk4 h.1) (fun h=>by rw [he] at h;cases h.2)) (fun h=>by unfold isHead at h;simp only [Bool.and_eq_true,decide_eq_true_eq] at h;exact hc9 h.1.2) _
  ·have he:Gp.each m.g[i].c=false:=by assumption
   have hnf:¬ m.g[i].c.n≤(feeds x:Int):=of_decide_eq_false (by assumption)
   conv=>whnf
   refine WkE.of ⟨fun _ _ _ _ _ _ _ _ S=>S⟩ ?_
   conv=>whnf
   exact hnone hk5 (hbe0 (fun h=>hk4 h.1) (fun h=>by rw [he] at h;cases h.2)) (fun h=>hnf h.2) _
  ·have he:Gp.each m.g[i].c=false:=by assumption
   have hc9:m.g[i].c.kind=9:=of_decide_eq_true (by assumption)
   have hnf:m.g[i].c.n≤(feeds x:Int):=of_decide_eq_true (by assumption)
   have hcn:=hgf.node i hlt
   rw [hnd] at hcn
   have hps0:ps=0:=by
    have h1:m.g[i].ins.length=1:=by
     rcases qu_ hcn with h|h|h|h|h
     ·omega
     ·omega
     ·exact h.2.1
     ·omega
     ·omega
    omega
   have hgf2:(gotK m i ps).length≤(pr m i).got.flatten.length:=x5_ _ _
   have hx4:x.length≤400000000:=by rw [←hx,List.length_append,List.length_take];omega
   obtain ⟨M2,hM2⟩:∃ M2:MachS,M2=⟨m.g,m.f,m.pipes.set (insB m.g i+ps) (shutP q),m.p.set i (setGot (pr m i) ps x),m.sunk⟩:=⟨_,rfl⟩
   have hpr2:pr M2 i=setGot (pr m i) ps x:=by
    rw [hM2]
    show (m.p.set i _).getD i zProc=_
    rw [xj_,if_pos ⟨rfl,hmp⟩]
   have hF2:FocOK M2 i els:=by
    refine ⟨by rw [hM2];exact h.g,by rw [hM2];exact h.f,by rw [hM2];show (m.p.set i _).length=_;rw [List.length_set];exact h.np,by rw [hM2];show (m.pipes.set _ _).length=_;rw [List.length_set];exact h.nq,by rw [hM2];exact h.lt,by rw [hM2];exact h.nl,?_,?_,fun p hp=>?_,h.pe,fun b hb=>?_⟩
    ·rw [hpr2,hM2]
     show ((pr m i).got.set ps x).length=_
     rw [List.length_set]
     exact h.got
    ·rw [hpr2,hM2]
     exact h.out
    ·rw [hM2] at hp
     rcases List.mem_or_eq_of_mem_set hp with hp|rfl
     ·exact h.room p hp
     ·exact Nat.zero_le _
    ·rw [hpr2] at hb
     have hb2:b∈(pr m i).got.set ps x++(pr m i).out:=hb
     rcases List.mem_append.1 hb2 with hb|hb
     ·rcases List.mem_or_eq_of_mem_set hb with hb|rfl
      ·exact h.big b (List.mem_append_left _ hb)
      ·exact hx4
     ·exact h.big b (List.mem_append_right _ hb)
   have hfl2:(pr M2 i).got.flatten.length≤500000000:=by
    rw [hpr2]
    show ((pr m i).got.set ps x).flatten.length≤_
    have:=x4_ (pr m i).got ps x hgl
    have e3:((pr m i).got.getD ps []).length=(gotK m i ps).length:=rfl
    have e4:x.length≤(gotK m i ps).length+8:=by rw [←hx,List.length_append,List.length_take];omega
    omega
   have e:=qfi_ (m:=m1) (i:=i) (b:=q.b.take 8) (k:=ps) hk1 (by rw [n1];exact hk5) (by rw [n1];exact hbe0 (fun h=>hk4 h.1) (fun h=>by rw [he] at h;cases h.2)) (by rw [n1,hx1];refine ⟨?_,hnf⟩;unfold isHead;simp [hk3,hc9])
   have e2:cameM m1 i (q.b.take 8)=fullM M2 i:=by
    rw [e,hx1,p1,g1,hM2,←hm1,hps0]
    congr 1
    show MachS.mk m.g m.f ((m.pipes.set (insB m.g i+0) _).set (insB m.g i) (shutP (qu (setQ m (insB m.g i+0) _) (insB m.g i)))) _ m.sunk=_
    rw [Nat.add_zero,List.set_set,qty_ (by omega),if_pos rfl]
    rfl
   rw [e2] at hstM
   conv=>whnf
   refine qd_ [10] (σ:=Unit) (fun _=>[]) (fun _=>[.box [.sl nodeV m.g,.sl fileV m.f,.own 1,.own 2,.sl byteV m.sunk],.row 4 ((m.pipes.set (insB m.g i+ps) (shutP q)).map pipeV),.rowq 5 (els.set i (procF (pr m i))),.row 1 (((pr m i).got.map blV).set ps (blV x)),.row 1 ((pr m i).out.map blV)]++[.box [.ptr 0 0 0],.box [.own 7],.row 1 (frsN m.g m.g.length),.mp 47 3 .pair intV u,.box [.ptr 2 i 0],.box (nodeV m.g[i]).cells,.box [.fn 109 []]]) (fun _=>True) ?_
   conv=>whnf
   refine ⟨?_,fun _ _=>?_⟩
   ·conv=>whnf
    refine ⟨_,List.getElem?_set_self (by rw [List.length_map];exact hxl),?_⟩
    conv=>whnf
    refine ⟨_,List.getElem?_set_self (by rw [List.length_set,List.length_map];exact hxl),?_⟩
    conv=>whnf
    rw [List.set_set,List.set_set]
    exact ⟨(),(wk_le 1 rfl (qp6_ (q:=q))).trans (by (refine qc_ [some 0,some 1,some 2,some 3,some 4,some 5,some 6,some 7,some 8,some 9,some 10,some 11] rfl rfl ?_ ?_<;>(repeat' (first|exact qg_ hpe rfl rfl|exact True.intro|exact rfl|exact Or.inl rfl|exact Or.inr rfl|refine And.intro ?_ ?_|fail)))),trivial⟩
   conv=>whnf
   refine ⟨M2,i,els,u,rfl,hF2,hfl2,?_,fun a ex ha h1 h2=>?_⟩
   ·rw [hM2,q2_ hmp]
    show _=_++side12 109 47 3 m i u
    unfold side12 setGot
    rw [hnd]
    dsimp only
    rw [List.map_set (f:=blV)]
    rfl
   conv=>whnf
   refine WkE.of ⟨fun _ _ _ _ _ _ _ _ S=>S⟩ ?_
   conv=>whnf
   exact hend2 _ _ a ex hstM ha h1 h2
  have he:Gp.each m.g[i].c=true:=by assumption
  have hol:0<(pr m i).out.length:=by
   rw [h.out]
   unfold nO outsN
   rw [hnd,if_neg (by omega),if_neg (by omega)]
   decide
  have hgo:((pr m i).out.map blV)[0]?=some (blV (outK m i 0)):=by
   unfold outK
   rw [List.getElem?_map,List.getElem?_eq_getElem hol,List.getD_eq_getElem?_getD,List.getElem?_eq_getElem hol];rfl
  have hob:(outK m i 0).length≤400000000:=by
   refine h.big _ (List.mem_append_right _ ?_)
   unfold outK
   rw [List.getD_eq_getElem?_getD,List.getElem?_eq_getElem hol]
   exact List.getElem_mem hol
  have hcn:=hgf.node i hlt
  rw [hnd] at hcn
  have hcc:checkCmd m.g[i].c=0:=by
   rcases qu_ hcn with h|h|h|h|h
   ·omega
   ·omega
   ·exact h.2.2
   ·omega
   ·omega
  have hl1:=q4_ (comp x)
  have hel:=xh_ (comp x)
  have hp1:=q6_ (comp x)
  have hlp:=zl_ hcc (linesOf (comp x)) (by omega)
  conv=>whnf
  apply Exists.intro
  apply And.intro
  ·conv=>whnf
   refine ⟨_,hei,?_⟩
   repeat' first|refine ⟨rfl,?_⟩|fail
   exact rfl
  conv=>whnf
  refine ⟨trivial,?_⟩
  conv=>whnf
  apply Exists.intro
  apply And.intro
  ·refine ⟨rfl,0,rfl,by rw [List.length_map];exact hol,?_⟩
   exact ⟨rfl,rfl⟩
  conv=>whnf
  refine ⟨trivial,?_⟩
  conv=>whnf
  repeat' first|exact True.intro|refine ⟨_,⟨rfl,rfl⟩,?_⟩|refine And.intro (a:=chkPast _ _ _ _ _ _ _ _) ?_ ?_|fail
  conv=>whnf
  refine ⟨.sl byteV (x.take (comp x).length),⟨fun _=>rfl,(comp x).length,rfl,hcxl,rfl,rfl⟩,?_⟩
  rw [htk]
  conv=>whnf
  apply Exists.intro
  apply And.intro
  ·refine ⟨comp x,rfl,by omega,?_⟩
   exact ⟨rfl,rfl⟩
  conv=>whnf
  apply Exists.intro
  apply And.intro
  ·refine ⟨m.g[i].c,linesOf (comp x),rfl,⟨hcc,by omega,fun s hs=>by have:=hel s hs;omega⟩,?_⟩
   exact ⟨rfl,rfl⟩
  conv=>whnf
  apply Exists.intro
  apply And.intro
  ·refine ⟨linesC m.g[i].c (linesOf (comp x)),rfl,by omega,?_⟩
   exact ⟨rfl,rfl⟩
  conv=>whnf
  apply Exists.intro
  apply Exists.intro
  apply And.intro
  ·conv=>whnf
   refine ⟨_,hgo,?_⟩
   repeat' first|refine And.intro (a:=_≤140737488355328) ?_ ?_|refine ⟨(fun _=>rfl),?_⟩|fail
   ·show (0+((outK m i 0).map byteV).length)*1≤_
    rw [List.length_map];omega
   ·show (([]++(outK m i 0).map byteV).length+((put (linesC m.g[i].c (linesOf (comp x)))).map byteV).length)*1≤_
    rw [List.nil_append,List.length_map,List.length_map];omega
   conv=>whnf
   refine ⟨UInt8,byteV,outK m i 0++put (linesC m.g[i].c (linesOf (comp x))),LeL.of (by simp),?_⟩
   conv=>whnf
   refine ⟨by rw [List.length_map];exact hol,?_⟩
   exact ⟨rfl,rfl⟩
  conv=>whnf
  repeat' first|exact True.intro|refine ⟨_,⟨rfl,rfl⟩,?_⟩|refine And.intro (a:=chkPend _ _ _ _ _ _) ?_ ?_|refine And.intro (a:=chkPast _ _ _ _ _ _ _ _) ?_ ?_|fail
  conv=>whnf
  apply Exists.intro
  apply And.intro
  ·conv=>whnf
   refine ⟨_,hei,?_⟩
   repeat' first|refine ⟨rfl,?_⟩|fail
   exact rfl
  conv=>whnf
  refine ⟨trivial,?_⟩
  conv=>whnf
  repeat' first|exact True.intro|refine ⟨_,⟨rfl,rfl⟩,?_⟩|refine And.intro (a:=chkPast _ _ _ _ _ _ _ _) ?_ ?_|fail
  conv=>whnf
  apply Exists.intro
  apply And.intro
  ·conv=>whnf
   refine ⟨_,hei,?_⟩
   repeat' first|refine ⟨rfl,?_⟩|fail
   exact rfl
  conv=>whnf
  refine ⟨trivial,?_⟩
  conv=>whnf
  repeat' first|refine ⟨_,⟨rfl,rfl⟩,?_⟩|fail
  refine ⟨.sl byteV (x.drop (comp x).length),⟨fun _=>rfl,(comp x).length,rfl,hcxl,rfl,rfl⟩,?_⟩
  conv=>whnf
  apply Exists.intro
  apply And.intro
  ·refine ⟨rfl,ps,hps,by rw [List.length_set,List.length_map];exact hgl,?_⟩
   exact ⟨rfl,rfl⟩
  conv=>whnf
  refine ⟨trivial,?_⟩
  conv=>whnf
  apply Exists.intro
  apply Exists.intro
  apply And.intro
  ·conv=>whnf
   refine ⟨by rw [List.length_set,List.length_map];exact hgl,?_⟩
   exact ⟨rfl,rfl⟩
  conv=>whnf
  repeat' first|exact True.intro|refine And.intro (a:=chkPend _ _ _ _ _ _) ?_ ?_|fail
  conv=>whnf
  refine WkE.of (L':=[]) (rows':=[.box [.sl nodeV m.g,.sl fileV m.f,.own 1,.own 2,.sl byteV m.sunk],.row 4 ((m.pipes.map pipeV).set (insB m.g i+ps) (pipeV ⟨q.b.drop 8,q.room,q.closed,q.shut⟩)),.rowq 5 (els.set i (procF (pr m i))),.row 1 (((pr m i).got.map blV).set ps (blV (rest x))),.row 1 (((pr m i).out.map blV).set 0 (blV (outK m i 0++put (linesC m.g[i].c (linesOf (comp x))))))]) (by rw [List.set_set,hdp];exact (by (refine qc_ [some 0,some 1,some 2,some 3,some 4] rfl rfl ?_ ?_<;>(repeat' (first|exact qg_ hpe rfl rfl|exact True.intro|exact rfl|exact Or.inl rfl|exact Or.inr rfl|refine And.intro ?_ ?_|fail))))) ?_
  conv=>whnf
  have e:=qbe_ (m:=m1) (i:=i) (b:=q.b.take 8) (k:=ps) hk1 (by rw [n1];exact hk5) (by rw [n1];right;unfold isEach;simp [hk3,he])
  rw [e] at hstM
  have hfin:=hend _ 0 [] hstM
  rw [q2_ hmp1,hx1,p1,n1,if_pos hk3] at hfin
  have ho1:outK m1 i 0=outK m i 0:=by unfold outK;rw [p1]
  rw [ho1,←hm1] at hfin
  unfold setQ setOut setGot at hfin
  dsimp only at hfin
  rw [List.map_set (f:=pipeV),List.map_set,List.map_set] at hfin
  exact hfin
 ·have hk5:¬ m.g[i].kind=5:=of_decide_eq_false (by assumption)
  have hh1:¬ m.g[i].how=1:=of_decide_eq_false (by assumption)
  have hk3:¬ m.g[i].kind=3:=of_decide_eq_false (by assumption)
  conv=>whnf
  refine WkE.of ⟨fun _ _ _ _ _ _ _ _ S=>S⟩ ?_
  conv=>whnf
  exact hnone hk5 (hbe0 (fun h=>hh1 h.2) (fun h=>hk3 h.1)) (fun h=>by unfold isHead at h;simp only [Bool.and_eq_true,decide_eq_true_eq] at h;exact hk3 h.1.1) _
 ·have hk5:¬ m.g[i].kind=5:=of_decide_eq_false (by assumption)
  have hk4:m.g[i].kind=4:=of_decide_eq_true (by assumption)
  have hh1:m.g[i].how=1:=of_decide_eq_true (by assumption)
  have hol:0<(pr m i).out.length:=by
   rw [h.out]
   unfold nO outsN
   rw [hnd,if_neg (by omega),if_neg (by omega)]
   decide
  have hgo:((pr m i).out.map blV)[0]?=some (blV (outK m i 0)):=by
   unfold outK
   rw [List.getElem?_map,List.getElem?_eq_getElem hol,List.getD_eq_getElem?_getD,List.getElem?_eq_getElem hol];rfl
  have hob:(outK m i 0).length≤400000000:=by
   refine h.big _ (List.mem_append_right _ ?_)
   unfold outK
   rw [List.getD_eq_getElem?_getD,List.getElem?_eq_getElem hol]
   exact List.getElem_mem hol
  conv=>whnf
  apply Exists.intro
  apply And.intro
  ·conv=>whnf
   refine ⟨_,hei,?_⟩
   repeat' first|refine ⟨rfl,?_⟩|fail
   exact rfl
  conv=>whnf
  refine ⟨trivial,?_⟩
  conv=>whnf
  apply Exists.intro
  apply And.intro
  ·refine ⟨rfl,0,rfl,by rw [List.length_map];exact hol,?_⟩
   exact ⟨rfl,rfl⟩
  conv=>whnf
  refine ⟨trivial,?_⟩
  conv=>whnf
  repeat' first|refine ⟨_,⟨rfl,rfl⟩,?_⟩|fail
  refine ⟨.sl byteV (x.take (comp x).length),⟨fun _=>rfl,(comp x).length,rfl,hcxl,rfl,rfl⟩,?_⟩
  conv=>whnf
  apply Exists.intro
  apply Exists.intro
  apply And.intro
  ·conv=>whnf
   refine ⟨_,hgo,?_⟩
   repeat' first|refine And.intro (a:=_≤140737488355328) ?_ ?_|refine ⟨(fun _=>rfl),?_⟩|fail
   ·show (0+((outK m i 0).map byteV).length)*1≤_
    rw [List.length_map];omega
   ·show (([]++(outK m i 0).map byteV).length+((x.take (comp x).length).map byteV).length)*1≤_
    rw [List.nil_append,List.length_map,List.length_map,List.length_take];omega
   conv=>whnf
   refine ⟨UInt8,byteV,outK m i 0++x.take (comp x).length,LeL.of (by simp),?_⟩
   conv=>whnf
   refine ⟨by rw [List.length_map];exact hol,?_⟩
   exact ⟨rfl,rfl⟩
  conv=>whnf
  repeat' first|exact True.intro|refine ⟨_,⟨rfl,rfl⟩,?_⟩|refine And.intro (a:=chkPend _ _ _ _ _ _) ?_ ?_|refine And.intro (a:=chkPast _ _ _ _ _ _ _ _) ?_ ?_|fail
  conv=>whnf
  apply Exists.intro
  apply And.intro
  ·conv=>whnf
   refine ⟨_,hei,?_⟩
   repeat' first|refine ⟨rfl,?_⟩|fail
   exact rfl
  conv=>whnf
  refine ⟨trivial,?_⟩
  conv=>whnf
  repeat' first|exact True.intro|refine ⟨_,⟨rfl,rfl⟩,?_⟩|refine And.intro (a:=chkPast _ _ _ _ _ _ _ _) ?_ ?_|fail
  conv=>whnf
  apply Exists.intro
  apply And.intro
  ·conv=>whnf
   refine ⟨_,hei,?_⟩
   repeat' first|refine ⟨rfl,?_⟩|fail
   exact rfl
  conv=>whnf
  refine ⟨trivial,?_⟩
  conv=>whnf
  repeat' first|refine ⟨_,⟨rfl,rfl⟩,?_⟩|fail
  refine ⟨.sl byteV (x.drop (comp x).length),⟨fun _=>rfl,(comp x).length,rfl,hcxl,rfl,rfl⟩,?_⟩
  conv=>whnf
  apply Exists.intro
  apply And.intro
  ·refine ⟨rfl,ps,hps,by rw [List.length_set,List.length_map];exact hgl,?_⟩
   exact ⟨rfl,rfl⟩
  conv=>whnf
  refine ⟨trivial,?_⟩
  conv=>whnf
  apply Exists.intro
  apply Exists.intro
  apply And.intro
  ·conv=>whnf
   refine ⟨by rw [List.length_set,List.length_map];exact hgl,?_⟩
   exact ⟨rfl,rfl⟩
  conv=>whnf
  repeat' first|exact True.intro|refine And.intro (a:=chkPend _ _ _ _ _ _) ?_ ?_|fail
  conv=>whnf
  refine WkE.of (L':=[]) (rows':=[.box [.sl nodeV m.g,.sl fileV m.f,.own 1,.own 2,.sl byteV m.sunk],.row 4 ((m.pipes.map pipeV).set (insB m.g i+ps) (pipeV ⟨q.b.drop 8,q.room,q.closed,q.shut⟩)),.rowq 5 (els.set i (procF (pr m i))),.row 1 (((pr m i).got.map blV).set ps (blV (rest x))),.row 1 (((pr m i).out.map blV).set 0 (blV (outK m i 0++comp x)))]) (by rw [List.set_set,htk,hdp];exact (by (refine qc_ [some 0,some 1,some 2,some 3,some 4] rfl rfl ?_ ?_<;>(repeat' (first|exact qg_ hpe rfl rfl|exact True.intro|exact rfl|exact Or.inl rfl|exact Or.inr rfl|refine And.intro ?_ ?_|fail))))) ?_
  conv=>whnf
  have e:=qbe_ (m:=m1) (i:=i) (b:=q.b.take 8) (k:=ps) hk1 (by rw [n1];exact hk5) (by rw [n1];left;unfold isBeh;simp [hk4,hh1])
  have hpc:put (linesOf (comp x))=comp x:=by
   rcases qdr_ (comp x) with h1|h1
   ·exact h1.1
   ·exact absurd (qb2_ x) h1.2
  rw [e] at hstM
  have hfin:=hend _ 0 [] hstM
  rw [q2_ hmp1,hx1,p1,n1,if_neg (by omega),hpc] at hfin
  have ho1:outK m1 i 0=outK m i 0:=by unfold outK;rw [p1]
  rw [ho1,←hm1] at hfin
  unfold setQ setOut setGot at hfin
  dsimp only at hfin
  rw [List.map_set (f:=pipeV),List.map_set,List.map_set] at hfin
  exact hfin
 ·have hk5:m.g[i].kind=5:=of_decide_eq_true (by assumption)
  conv=>whnf
  apply Exists.intro
  apply Exists.intro
  apply And.intro
  ·conv=>whnf
   repeat' first|refine And.intro (a:=_≤140737488355328) ?_ ?_|refine ⟨(fun _=>rfl),?_⟩|refine ⟨rfl,?_⟩|fail
   ·show (0+(m.sunk.map byteV).length)*1≤_
    rw [List.length_map];omega
   ·show (([]++m.sunk.map byteV).length+(x.map byteV).length)*1≤_
    rw [List.nil_append,List.length_map,List.length_map];omega
   exact rfl
  conv=>whnf
  repeat' first|exact True.intro|refine ⟨_,⟨rfl,rfl⟩,?_⟩|refine And.intro (a:=chkPend _ _ _ _ _ _) ?_ ?_|refine And.intro (a:=chkPast _ _ _ _ _ _ _ _) ?_ ?_|fail
  conv=>whnf
  apply Exists.intro
  apply And.intro
  ·conv=>whnf
   refine ⟨_,hei,?_⟩
   repeat' first|refine ⟨rfl,?_⟩|fail
   exact rfl
  conv=>whnf
  refine ⟨trivial,?_⟩
  conv=>whnf
  repeat' first|exact True.intro|refine ⟨_,⟨rfl,rfl⟩,?_⟩|refine And.intro (a:=chkPast _ _ _ _ _ _ _ _) ?_ ?_|fail
  conv=>whnf
  apply Exists.intro
  apply And.intro
  ·conv=>whnf
   refine ⟨_,hei,?_⟩
   repeat' first|refine ⟨rfl,?_⟩|fail
   exact rfl
  conv=>whnf
  refine ⟨trivial,?_⟩
  conv=>whnf
  apply Exists.intro
  apply And.intro
  ·refine ⟨rfl,ps,hps,by rw [List.length_set,List.length_map];exact hgl,?_⟩
   exact ⟨rfl,rfl⟩
  conv=>whnf
  refine ⟨trivial,?_⟩
  conv=>whnf
  apply Exists.intro
  apply Exists.intro
  apply And.intro
  ·conv=>whnf
   refine ⟨by rw [List.length_set,List.length_map];exact hgl,?_⟩
   exact ⟨rfl,rfl⟩
  conv=>whnf
  repeat' first|exact True.intro|refine And.intro (a:=chkPend _ _ _ _ _ _) ?_ ?_|fail
  conv=>whnf
  refine WkE.of (L':=[]) (rows':=[.box [.sl nodeV m.g,.sl fileV m.f,.own 1,.own 2,.sl byteV (m.sunk++x)],.row 4 ((m.pipes.map pipeV).set (insB m.g i+ps) (pipeV ⟨q.b.drop 8,q.room,q.closed,q.shut⟩)),.rowq 5 (els.set i (procF (pr m i))),.row 1 (((pr m i).got.set ps []).map blV),.row 1 ((pr m i).out.map blV)]) ((wk_fz 14 (enc:=byteV) (l:=m.sunk++x) rfl (LeL.of (by simp))).trans ((wk_le (els':=((pr m i).got.set ps []).map blV) 3 rfl (by rw [List.set_set];exact qgg_ ps)).trans (by (refine qc_ [some 0,some 1,some 2,some 3,some 4] rfl rfl ?_ ?_<;>(repeat' (first|exact qg_ hpe rfl rfl|exact True.intro|exact rfl|exact Or.inl rfl|exact Or.inr rfl|refine And.intro ?_ ?_|fail)))))) ?_
  conv=>whnf
  have e:=qev_ (m:=m1) (i:=i) (b:=q.b.take 8) (k:=ps) hk1 (by rw [n1];exact hk5)
  rw [e] at hstM
  have hfin:=hend _ 0 [] hstM
  rw [q2_ hmp1,hx1,p1,←hm1] at hfin
  unfold setQ setGot at hfin
  dsimp only at hfin
  rw [List.map_set (f:=pipeV)] at hfin
  exact hfin
end Gv
namespace Gv
variable [Glob] [Laid] [Nums] [Errs]
theorem qhf_:callable Tryz.prog 49=true:=by kernel_rfl
def steppedG_P:PSpec:=fun args rows K=>∃ (m:MachS) (i r0 r1 r2 r3:Nat) (Q:Loc),args=[.ptr r0 0 0,.int .i64 i]∧rows[r0]?=some (.box [.sl nodeV m.g,.sl fileV m.f,.own r1,.own r2,.sl byteV m.sunk])∧rows[r1]?=some (.row 4 (m.pipes.map pipeV))∧rows[r2]?=some (.row 5 (procEls Q m.p))∧rows[r3]?=some (.pack Q (subsOf m.p))∧FocM m i∧stepZ m i∧∀ Q',setK rows r0 (.box [.sl nodeV (stepM m i).1.g,.sl fileV (stepM m i).1.f,.own r1,.own r2,.sl byteV (stepM m i).1.sunk]) fun a=>setK a r1 (.row 4 ((stepM m i).1.pipes.map pipeV)) fun b=>setK b r2 (.row 5 (procEls Q' (stepM m i).1.p)) fun c=>setK c r3 (.pack Q' (subsOf (stepM m i).1.p)) fun d=>K (.int .i64 (stepM m i).2) d
theorem qc3_:PrimOK Tryz.prog 49 steppedG_P:=by
 intro w0 m0 args rows K R m' q w us C hv hT
 obtain ⟨m,i,r0,r1,r2,r3,Q,rfl,h0,h1,h2,h3,hF,hZ,hK⟩:=hT
 refine qg8_ qd7_ w0 m0 _ _ K R m' q w us C hv ⟨m,i,r0,r1,r2,r3,Q,rfl,h0,h1,h2,h3,hF.foc,hZ,fun Q'=>?_⟩
 exact (qx_ _ _ _ _ (qx_ _ _ _ _ (qx_ _ _ _ _ (qx_ _ _ _ _ (hK Q')).2).2).2).2
end Gv
namespace Gv
variable [Glob] [Laid] [Nums] [Errs]
def xSteps_S:Spec:=fun args K=>∃ (m:MachS) (i:Int) (g:List Gp.Node) (f:List FileS) (rm:Int),args=[machV m,.int .i64 i,.agg [.sl nodeV g],.sl fileV f,.int .i64 rm]∧ownZ m∧K (.bool true)
noncomputable def xSteps_lib:List (Nat × Spec):=[(12,stepX_S),(19,newX_S),(46,checkMR_S),(13,milledK_S),(41,checkMX_S),(43,sameM_S),(47,checkGR_S),(30,cfilesR_S),(48,freshR_S)]
noncomputable def xSteps_fns:List (Nat × FnI):=[(45,{ fn:=Tryz.f45,spec:=some ownG_P }),(49,{ fn:=Tryz.f49,spec:=some steppedG_P })]
noncomputable def xSteps_prims:List (Nat × PSpec):=[]
theorem qo8_:EnvOK ⟨Tryz.prog,tys,xSteps_lib,xSteps_fns,xSteps_prims,[]⟩:=qf_ mixed0 tys0 (.cons qif_ qin_ (.cons qmj_ qmy_ (.cons qjk_ qi8_ (.cons qjg_ qko_ (.cons wc_ vt_ (.cons qrm_ qov_ (.cons qcu_ qci_ (.cons qcm_ qch_ (.cons qny_ qln_ .nil))))))))) (.told qtx_ rfl qk0_ (.told qhf_ rfl qc3_ .nil)) .nil rfl
theorem qmh_:Pure Tryz.prog 9 xSteps_S:=by
 refine qe_ qo8_ 6 (fi:={fn:=Tryz.f9,hooks:=[2,7,10,12,17,19,22],draws:=[(15,[0,1,3,7,7,7,7,119,255,511,1023])]}) ⟨Tryz.func9,by kernel_rfl,by kernel_rfl⟩ ?_
 rintro _ K ⟨m,i,g,f,rm,rfl,hz,hK⟩
 replace hK:∀ r,r=.bool true→K r:=fun r h=>h ▸ hK
 conv=>whnf
 refine qd_ [1,3,4,5,7] (σ:=Unit) (fun _=>[(11,.ptr 2 0 0)]) (fun _=>[.box (machV m).cells,.box [.sl nodeV g],.box (machV m).cells]) (fun _=>True) ?_
 conv=>whnf
 refine ⟨?_,fun _ _=>?_⟩
 ·conv=>whnf
  refine ⟨m,rfl,hz,fun Q=>?_⟩
  conv=>whnf
  exact ⟨(),(qat_ 3 4 rfl rfl).trans ((wk_fz 2 (k:=4) (enc:=pipeV) (l:=m.pipes) rfl (LeL.refl _)).trans ((wk_fz 3 (k:=5) (enc:=procV) (l:=m.p) rfl (LeL.refl _)).trans (by (refine qc_ [some 0,some 1,some 5] rfl rfl ?_ ?_<;>(repeat' first|exact True.intro|exact rfl|exact .inl rfl|exact .inr rfl|refine And.intro ?_ ?_|fail))))),trivial⟩
 conv=>whnf
 obtain ⟨r,hr⟩:∃ r,stepP m i=r:=⟨_,rfl⟩
 obtain ⟨y,hy⟩:∃ y,newP g f rm=y:=⟨_,rfl⟩
 skip
 refine ⟨m,i,rfl,?_⟩
 rw [hr]
 skip
 refine ⟨g,f,rm,rfl,?_⟩
 rw [hy]
 skip
 refine ⟨m,rfl,?_⟩
 skip
 conv=>whnf
 refine qd_ [1,3,4,5,7,12,13,14,15,16] (σ:=Unit) (fun _=>[]) (fun _=>[.box (machV m).cells,.box [.sl nodeV g],.box (machV m).cells,.box (machV r.1).cells,.box (machV y.1).cells]) (fun _=>True) ?_
 conv=>whnf
 refine ⟨?_,fun _ _=>?_⟩
 ·conv=>whnf
  repeat' first|(refine fun (b:Bool) hb=>?_;cases b<;>first|exact absurd hb (by decide)|exact nfl hb|exact nfr hb|skip)|refine ⟨rfl,?_⟩|fail
  conv=>whnf
  refine ⟨m,rfl,?_⟩
  repeat' first|(refine fun (b:Bool) hb=>?_;cases b<;>first|exact absurd hb (by decide)|exact nfl hb|exact nfr hb|skip)|fail
  rotate_left
  ·exact absurd ‹(!decide (checkMach m=checkMach m))=true› (by simp)
  conv=>whnf
  refine ⟨m,m,rfl,?_⟩
  repeat' first|(refine fun (b:Bool) hb=>?_;cases b<;>first|exact absurd hb (by decide)|exact nfl hb|exact nfr hb|skip)|fail
  rotate_left
  ·exact absurd ‹(!sameMB m m)=true› (by rw [sameMB_iff.2 rfl];decide)
  conv=>whnf
  exact ⟨(),(by (refine qa_ ?_;refine Sel4.mk rfl rfl ?_ ?_<;>(repeat' first|exact True.intro|exact rfl|exact .inl rfl|exact .inr rfl|refine And.intro ?_ ?_|fail))),trivial⟩
 conv=>whnf
 refine ⟨g,rfl,?_⟩
 skip
 conv=>whnf
 refine qd_ [1,3,4,5,7,12,13,14,15,16] (σ:=Unit) (fun _=>[(17,.int .i64 (if checkG g=0 then checkFiles f else checkG g))]) (fun _=>[.box (machV m).cells,.box [.sl nodeV g],.box (machV m).cells,.box (machV r.1).cells,.box (machV y.1).cells]) (fun _=>True) ?_
 conv=>whnf
 refine ⟨?_,fun _ _=>?_⟩
 ·conv=>whnf
  repeat' first|(refine fun (b:Bool) hb=>?_;cases b<;>first|exact absurd hb (by decide)|exact nfl hb|exact nfr hb|skip)|fail
  ·have h:¬ checkG g=0:=of_decide_eq_false (by assumption)
   conv=>whnf
   rw [if_neg h]
   exact ⟨(),(by (refine qa_ ?_;refine Sel4.mk rfl rfl ?_ ?_<;>(repeat' first|exact True.intro|exact rfl|exact .inl rfl|exact .inr rfl|refine And.intro ?_ ?_|fail))),trivial⟩
  ·have h:checkG g=0:=of_decide_eq_true (by assumption)
   conv=>whnf
   refine ⟨f,rfl,?_⟩
   skip
   rw [if_pos h]
   exact ⟨(),(by (refine qa_ ?_;refine Sel4.mk rfl rfl ?_ ?_<;>(repeat' first|exact True.intro|exact rfl|exact .inl rfl|exact .inr rfl|refine And.intro ?_ ?_|fail))),trivial⟩
 have hy2:y.2=if (if checkG g=0 then checkFiles f else checkG g)=0∧(rm<1∨1000<rm) then 3 else (if checkG g=0 then checkFiles f else checkG g):=by
  rw [←hy]
  unfold newP
  by_cases h1:checkG g=0
  ·by_cases h2:checkFiles f=0
   ·by_cases h3:rm<1∨1000<rm
    ·simp [h1,h2,h3]
    ·simp [h1,h2,h3]
   ·simp [h1,h2]
  ·simp [h1]
 generalize (if checkG g=0 then checkFiles f else checkG g)=w1 at hy2
 conv=>whnf
 refine qd_ [1,3,4,5,7,12,13,14,15,16] (σ:=Unit) (fun _=>[(17,.int .i64 y.2)]) (fun _=>[.box (machV m).cells,.box [.sl nodeV g],.box (machV m).cells,.box (machV r.1).cells,.box (machV y.1).cells]) (fun _=>True) ?_
 conv=>whnf
 refine ⟨?_,fun _ _=>?_⟩
 ·conv=>whnf
  repeat' first|(refine fun (b:Bool) hb=>?_;cases b<;>first|exact absurd hb (by decide)|exact nfl hb|exact nfr hb|skip)|fail
  all_goals (try (conv=>whnf))
  all_goals (skip)
  all_goals (try (conv=>whnf))
  all_goals (skip)
  all_goals (try (conv=>whnf))
  all_goals (skip)
  all_goals first
   | (have e : y.2 = w1 := by grind
      refine ⟨(),?_,trivial⟩
      rw [e]
      exact (by (refine qa_ ?_;refine Sel4.mk rfl rfl ?_ ?_<;>(repeat' first|exact True.intro|exact rfl|exact .inl rfl|exact .inr rfl|refine And.intro ?_ ?_|fail))))
   | (have e : y.2 = 3 := by grind
      refine ⟨(),?_,trivial⟩
      rw [e]
      exact (by (refine qa_ ?_;refine Sel4.mk rfl rfl ?_ ?_<;>(repeat' first|exact True.intro|exact rfl|exact .inl rfl|exact .inr rfl|refine And.intro ?_ ?_|fail))))
 have hyz:y.2≠0→y.1=zM:=fun h=>by
  rw [←hy] at h ⊢
  unfold newP at h ⊢
  by_cases h1:checkG g=0
  ·by_cases h2:checkFiles f=0
   ·by_cases h3:rm<1∨1000<rm
    ·simp [h1,h2,h3]
    ·simp [h1,h2,h3] at h
   ·simp [h1,h2]
  ·simp [h1]
 have hy0:y.2=0→checkG g=0∧y.1=freshM g f rm:=fun h=>by
  rw [←hy] at h ⊢
  unfold newP at h ⊢
  by_cases h1:checkG g=0
  ·by_cases h2:checkFiles f=0
   ·by_cases h3:rm<1∨1000<rm
    ·simp [h1,h2,h3] at h
    ·simp [h1,h2,h3]
   ·simp [h1,h2] at h
  ·simp [h1] at h
 conv=>whnf
 refine qd_ [1,5,12,13,16] (σ:=Unit) (fun _=>[]) (fun _=>[.box (machV m).cells,.box [.sl nodeV g],.box (machV m).cells,.box (machV r.1).cells,.box (machV y.1).cells]) (fun _=>True) ?_
 conv=>whnf
 refine ⟨?_,fun _ _=>?_⟩
 ·conv=>whnf
  repeat' first|exact True.intro|(refine fun (b:Bool) hb=>?_;cases b<;>first|exact absurd hb (by decide)|exact nfl hb|exact nfr hb|skip)|refine ⟨_,⟨rfl,rfl⟩,?_⟩|refine And.intro (a:=chkPast _ _ _ _ _ _ _ _) ?_ ?_|fail
  ·have h:y.2=0:=by simpa using ‹(!decide (y.2=0))=false›
   conv=>whnf
   apply Exists.intro
   apply And.intro
   ·refine ⟨g,f,rm,rfl,(hy0 h).1,?_⟩
    exact ⟨rfl,rfl⟩
   conv=>whnf
   apply Exists.intro
   apply And.intro
   ·refine ⟨y.1,freshM g f rm,rfl,?_⟩
    exact ⟨rfl,rfl⟩
   conv=>whnf
   repeat' first|(refine fun (b:Bool) hb=>?_;cases b<;>first|exact absurd hb (by decide)|exact nfl hb|exact nfr hb|skip)|refine ⟨_,⟨rfl,rfl⟩,?_⟩|fail
   rotate_left
   ·exact absurd ‹(!sameMB y.1 (freshM g f rm))=true› (by rw [sameMB_iff.2 (hy0 h).2];decide)
   conv=>whnf
   exact ⟨(),(by (refine qa_ ?_;refine Sel4.mk rfl rfl ?_ ?_<;>(repeat' first|exact True.intro|exact rfl|exact .inl rfl|exact .inr rfl|refine And.intro ?_ ?_|fail))),trivial⟩
  ·have h1:y.2=0:=by simpa using ‹(!decide (y.2=0))=false›
   have h2:y.2≠0:=by simpa using ‹(!decide (y.2=0))=true›
   exact absurd h1 h2
  ·have h:y.2≠0:=by simpa using ‹(!decide (y.2=0))=true›
   conv=>whnf
   refine ⟨Gp.Node,nodeV,?_⟩
   refine ⟨FileS,fileV,?_⟩
   refine ⟨PipeS,pipeV,?_⟩
   refine ⟨ProcS,procV,?_⟩
   refine ⟨UInt8,byteV,?_⟩
   refine ⟨y.1,zM,rfl,?_⟩
   repeat' first|(refine fun (b:Bool) hb=>?_;cases b<;>first|exact absurd hb (by decide)|exact nfl hb|exact nfr hb|skip)|fail
   rotate_left
   ·exact absurd ‹(!sameMB y.1 zM)=true› (by rw [sameMB_iff.2 (hyz h)];decide)
   conv=>whnf
   exact ⟨(),(by (refine qa_ ?_;refine Sel4.mk rfl rfl ?_ ?_<;>(repeat' first|exact True.intro|exact rfl|exact .inl rfl|exact .inr rfl|refine And.intro ?_ ?_|fail))),trivial⟩
  ·exact absurd ‹(!decide (y.2=y.2))=true› (by simp)
 obtain ⟨b2,hb2⟩:∃ b2,(if checkMach m=0∧(i<0∨(m.p.length:Int)≤i) then (5:Int) else checkMach m)=b2:=⟨_,rfl⟩
 conv=>whnf
 refine qd_ [1,5,12,13] (σ:=Unit) (fun _=>[(16,.int .i64 b2)]) (fun _=>[.box (machV m).cells,.box [.sl nodeV g],.box (machV m).cells,.box (machV r.1).cells,.box (machV y.1).cells]) (fun _=>True) ?_
 conv=>whnf
 refine ⟨?_,fun _ _=>?_⟩
 ·conv=>whnf
  repeat' first|(refine fun (b:Bool) hb=>?_;cases b<;>first|exact absurd hb (by decide)|exact nfl hb|exact nfr hb|skip)|(refine fun (hl:_≤MAXL)=>?_)|fail
  all_goals (try (conv=>whnf))
  all_goals (skip)
  all_goals (try (conv=>whnf))
  all_goals (skip)
  all_goals (try (conv=>whnf))
  all_goals (skip)
  all_goals first
   | (have e : b2 = checkMach m := by grind
      refine ⟨(),?_,trivial⟩
      rw [e]
      exact (by (refine qa_ ?_;refine Sel4.mk rfl rfl ?_ ?_<;>(repeat' first|exact True.intro|exact rfl|exact .inl rfl|exact .inr rfl|refine And.intro ?_ ?_|fail))))
   | (have e : b2 = 5 := by grind
      refine ⟨(),?_,trivial⟩
      rw [e]
      exact (by (refine qa_ ?_;refine Sel4.mk rfl rfl ?_ ?_<;>(repeat' first|exact True.intro|exact rfl|exact .inl rfl|exact .inr rfl|refine And.intro ?_ ?_|fail))))
 conv=>whnf
 refine ⟨m,rfl,hz,fun Q=>?_⟩
 conv=>whnf
 have hbad:b2≠0→r.2=b2:=fun h=>by
  rw [←hr]
  unfold stepP
  by_cases h1:checkMach m=0
  ·by_cases h2:i<0∨(m.p.length:Int)≤i
   ·rw [if_neg (by rw [h1];decide),if_pos h2,←hb2,if_pos ⟨h1,h2⟩]
   ·rw [if_neg (fun hh=>h2 hh.2)] at hb2
    rw [←hb2] at h
    exact absurd h1 h
  ·rw [if_neg (fun hh=>h1 hh.1)] at hb2
   rw [if_pos h1,hb2]
 have hgood:b2=0→∃ k:Nat,i=k∧k<m.p.length∧checkMach m=0∧r.2=(stepM m k).2∧(r.2=0→(stepM m k).1=r.1):=fun h=>by
  by_cases h1:checkMach m=0
  ·by_cases h2:i<0∨(m.p.length:Int)≤i
   ·rw [if_pos ⟨h1,h2⟩] at hb2
    rw [←hb2] at h
    exact absurd h (by decide)
   ·refine ⟨i.toNat,by omega,by omega,h1,?_⟩
    rw [←hr]
    unfold stepP
    rw [if_neg (by rw [h1];decide),if_neg h2]
    by_cases h3:(stepM m i.toNat).2=0
    ·rw [if_neg (fun hh=>hh h3)]
     exact ⟨h3.symm,fun _=>rfl⟩
    ·rw [if_pos h3]
     exact ⟨rfl,fun hh=>absurd hh h3⟩
  ·rw [if_neg (fun hh=>h1 hh.1)] at hb2
   rw [hb2] at h1
   exact absurd h h1
 have hz2:r.2≠0→r.1=zM:=fun h=>by
  rw [←hr] at h ⊢
  unfold stepP at h ⊢
  split
  ·rfl
  ·split
   ·rfl
   ·split
    ·rfl
    ·rename_i h1 h2 h3
     rw [if_neg h1,if_neg h2,if_neg h3] at h
     exact absurd rfl h
 conv=>whnf
 refine qd_ [12,13,18] (σ:=MachS) (fun M=>[(16,.int .i64 r.2)]) (fun M=>[.box (machV m).cells,.box [.sl nodeV g],.box (machV m).cells,.box (machV r.1).cells,.box (machV y.1).cells,.dead,.dead,.dead,.box (machV M).cells]) (fun M=>r.2=0→M=r.1) ?_
 conv=>whnf
 refine ⟨?_,fun M hM=>?_⟩
 ·conv=>whnf
  repeat' first|(refine fun (b:Bool) hb=>?_;cases b<;>first|exact absurd hb (by decide)|exact nfl hb|exact nfr hb|skip)|fail
  ·have h:¬ b2=0:=of_decide_eq_false (by assumption)
   conv=>whnf
   refine ⟨m,?_,fun hh=>absurd ((hbad h).symm.trans hh) h⟩
   rw [hbad h]
   exact (qat_ 6 7 rfl rfl).trans ((wk_fz 5 (k:=4) (enc:=pipeV) (l:=m.pipes) rfl (LeL.refl _)).trans ((wk_fz 6 (k:=5) (enc:=procV) (l:=m.p) rfl (LeL.refl _)).trans (by (refine qc_ [some 0,some 1,some 2,some 3,some 4,some 5,some 6,some 7,some 8] rfl rfl ?_ ?_<;>(repeat' first|exact True.intro|exact rfl|exact .inl rfl|exact .inr rfl|refine And.intro ?_ ?_|fail)))))
  ·have h:b2=0:=of_decide_eq_true (by assumption)
   obtain ⟨k,rfl,hkl,h0,hr2,hr1⟩:=hgood h
   obtain ⟨hF,hZ⟩:=qfq_ (w0_ h0) hkl
   conv=>whnf
   refine ⟨m,k,8,5,6,7,Q,rfl,rfl,rfl,rfl,rfl,hF,hZ,fun Q'=>?_⟩
   conv=>whnf
   refine ⟨(stepM m k).1,?_,hr1⟩
   rw [hr2]
   exact (qat_ 6 7 rfl rfl).trans ((wk_fz 5 (k:=4) (enc:=pipeV) (l:=(stepM m k).1.pipes) rfl (LeL.refl _)).trans ((wk_fz 6 (k:=5) (enc:=procV) (l:=(stepM m k).1.p) rfl (LeL.refl _)).trans (by (refine qc_ [some 0,some 1,some 2,some 3,some 4,some 5,some 6,some 7,some 8] rfl rfl ?_ ?_<;>(repeat' first|exact True.intro|exact rfl|exact .inl rfl|exact .inr rfl|refine And.intro ?_ ?_|fail)))))
 conv=>whnf
 repeat' first|(refine fun (b:Bool) hb=>?_;cases b<;>first|exact absurd hb (by decide)|exact nfl hb|exact nfr hb|skip)|fail
 ·exact absurd (by simpa using ‹(!decide (r.2=0))=false›:r.2=0) (of_decide_eq_false (by assumption))
 ·have h:r.2=0:=of_decide_eq_true (by assumption)
  have hM:=hM h
  conv=>whnf
  refine ⟨r.1,M,rfl,?_⟩
  skip
  refine hK _ ?_
  rw [hM,sameMB_iff.2 rfl]
 ·exact absurd ‹decide (r.2=r.2)=false› (by simp)
 have h:r.2≠0:=by simpa using ‹(!decide (r.2=0))=true›
 conv=>whnf
 refine ⟨Gp.Node,nodeV,?_⟩
 refine ⟨FileS,fileV,?_⟩
 refine ⟨PipeS,pipeV,?_⟩
 refine ⟨ProcS,procV,?_⟩
 refine ⟨UInt8,byteV,?_⟩
 refine ⟨r.1,zM,rfl,?_⟩
 skip
 refine hK _ ?_
 rw [hz2 h,sameMB_iff.2 rfl]
end Gv
namespace Gv
variable [Glob] [Laid]
theorem qm9_:Opn Tryz.prog 38 cmdV (fun _=>True):=⟨fun en w fuel cs d p h hw=>by
 have hl:cs.length=3:=(q5_ Tryz.underlying38 h).trans (by kernel_rfl)
 obtain ⟨k,_,f1⟩:=qh_ 0 0 1 (T:=3) Tryz.underlying38 rfl rfl rfl (by kernel_rfl) (opn_int Tryz.underlying3) h hw
 obtain ⟨s,_,f2⟩:=qh_ 1 1 1 (T:=9) Tryz.underlying38 rfl rfl rfl (by kernel_rfl) (vy_ Tryz.underlying9) h hw
 obtain ⟨n,_,f3⟩:=qh_ 2 2 1 (T:=3) Tryz.underlying38 rfl rfl rfl (by kernel_rfl) (opn_int Tryz.underlying3) h hw
 have:=Fit.cons 0 1 f1 rfl (Fit.cons 1 2 f2 rfl (Fit.cons 2 3 f3 rfl (Fit.last 3 hl)))
 rw [List.drop_zero] at this
 exact ⟨⟨k,s,n⟩,trivial,this⟩⟩
end Gv
namespace Gv
variable [Glob] [Laid]
theorem qh5_:Opn Tryz.prog 47 portV (fun _=>True):=⟨fun en w fuel cs d p h hw=>by
 have hl:cs.length=2:=(q5_ Tryz.underlying47 h).trans (by kernel_rfl)
 obtain ⟨k,_,f1⟩:=qh_ 0 0 1 (T:=3) Tryz.underlying47 rfl rfl rfl (by kernel_rfl) (opn_int Tryz.underlying3) h hw
 obtain ⟨n,_,f3⟩:=qh_ 1 1 1 (T:=3) Tryz.underlying47 rfl rfl rfl (by kernel_rfl) (opn_int Tryz.underlying3) h hw
 have:=Fit.cons 0 1 f1 rfl (Fit.cons 1 2 f3 rfl (Fit.last 2 hl))
 rw [List.drop_zero] at this
 exact ⟨⟨k,n⟩,trivial,this⟩⟩
theorem qrr_:Opn Tryz.prog 41 nodeV (fun _=>True):=⟨fun en w fuel cs d p h hw=>by
 have hl:cs.length=8:=(q5_ Tryz.underlying41 h).trans (by kernel_rfl)
 obtain ⟨k,_,f1⟩:=qh_ 0 0 1 (T:=3) Tryz.underlying41 rfl rfl rfl (by kernel_rfl) (opn_int Tryz.underlying3) h hw
 obtain ⟨s,_,f2⟩:=qh_ 1 1 1 (T:=9) Tryz.underlying41 rfl rfl rfl (by kernel_rfl) (vy_ Tryz.underlying9) h hw
 obtain ⟨c,_,f3⟩:=qh_ 2 2 3 (T:=38) Tryz.underlying41 rfl rfl rfl (by kernel_rfl) qm9_ h hw
 obtain ⟨ho,_,f4⟩:=qh_ 3 5 1 (T:=3) Tryz.underlying41 rfl rfl rfl (by kernel_rfl) (opn_int Tryz.underlying3) h hw
 obtain ⟨wi,_,f5⟩:=qh_ 4 6 1 (T:=3) Tryz.underlying41 rfl rfl rfl (by kernel_rfl) (opn_int Tryz.underlying3) h hw
 obtain ⟨n,_,f6⟩:=qh_ 5 7 1 (T:=39) Tryz.underlying41 rfl rfl rfl (by kernel_rfl) (opn_slice (k:=2) Tryz.underlying39 (by kernel_rfl) (by omega) qh5_) h hw
 have:=Fit.cons 0 1 f1 rfl (Fit.cons 1 2 f2 rfl (Fit.cons 2 5 f3 rfl (Fit.cons 5 6 f4 rfl (Fit.cons 6 7 f5 rfl (Fit.cons 7 8 f6 rfl (Fit.last 8 hl))))))
 rw [List.drop_zero] at this
 exact ⟨⟨k,s,c,ho,wi,n⟩,trivial,this⟩⟩
theorem opn_graph:Opn Tryz.prog 24 (fun N:List Gp.Node=>.agg [.sl nodeV N]) (fun _=>True):=⟨fun en w fuel cs d p h hw=>by
 have hl:cs.length=1:=(q5_ Tryz.underlying24 h).trans (by kernel_rfl)
 obtain ⟨k,_,f1⟩:=qh_ 0 0 1 (T:=22) Tryz.underlying24 rfl rfl rfl (by kernel_rfl) (opn_slice (k:=8) Tryz.underlying22 (by kernel_rfl) (by omega) qrr_) h hw
 have:=Fit.cons 0 1 f1 rfl (Fit.last 1 hl)
 rw [List.drop_zero] at this
 exact ⟨k,trivial,this⟩⟩
theorem opn_file:Opn Tryz.prog 56 fileV (fun _=>True):=⟨fun en w fuel cs d p h hw=>by
 have hl:cs.length=2:=(q5_ Tryz.underlying56 h).trans (by kernel_rfl)
 obtain ⟨k,_,f1⟩:=qh_ 0 0 1 (T:=9) Tryz.underlying56 rfl rfl rfl (by kernel_rfl) (vy_ Tryz.underlying9) h hw
 obtain ⟨n,_,f3⟩:=qh_ 1 1 1 (T:=28) Tryz.underlying56 rfl rfl rfl (by kernel_rfl) (opn_slice (k:=1) Tryz.underlying28 (by kernel_rfl) (by omega) (qdc_ Tryz.underlying5)) h hw
 have:=Fit.cons 0 1 f1 rfl (Fit.cons 1 2 f3 rfl (Fit.last 2 hl))
 rw [List.drop_zero] at this
 exact ⟨⟨k,n⟩,trivial,this⟩⟩
end Gv
namespace Gv
variable [Glob] [Laid]
theorem vk_:Opn Tryz.prog 28 blV (fun l=>(∀ x∈l,True)∧l.length*(Tryz.prog).bytesOf 5≤reachBytes):=opn_slice (k:=1) Tryz.underlying28 (by kernel_rfl) (by omega) (qdc_ Tryz.underlying5)
end Gv
namespace Gv
variable [Glob] [Laid]
theorem sizeZ {P:Program} {e:TypeId} {n k:Nat} (hb:P.bytesOf e=k) (h:n*P.bytesOf e≤reachBytes):n*k≤140737488355328:=by
 rw [hb] at h
 exact Nat.le_trans h (by decide)
theorem bytesZ {l:Bs} (h:(∀ x∈l,True)∧l.length*(Tryz.prog).bytesOf 5≤reachBytes):l.length≤140737488355328:=by
 have:=sizeZ (k:=1) (by kernel_rfl) h.2
 omega
theorem listZ {l:List Bs} (h:(∀ b∈l,(∀ x∈b,True)∧b.length*(Tryz.prog).bytesOf 5≤reachBytes)∧l.length*(Tryz.prog).bytesOf 28≤reachBytes):l.length*24≤140737488355328∧∀ b∈l,b.length≤140737488355328 :=
 ⟨sizeZ (k:=24) (by kernel_rfl) h.2,fun b hb=>bytesZ (h.1 b hb)⟩
theorem qly_:Opn Tryz.prog 41 nodeV (fun n=>n.ins.length*16≤140737488355328):=⟨fun en w fuel cs d p h hw=>by
 have hl:cs.length=8:=(q5_ Tryz.underlying41 h).trans (by kernel_rfl)
 obtain ⟨k,_,f1⟩:=qh_ 0 0 1 (T:=3) Tryz.underlying41 rfl rfl rfl (by kernel_rfl) (opn_int Tryz.underlying3) h hw
 obtain ⟨s,_,f2⟩:=qh_ 1 1 1 (T:=9) Tryz.underlying41 rfl rfl rfl (by kernel_rfl) (vy_ Tryz.underlying9) h hw
 obtain ⟨c,_,f3⟩:=qh_ 2 2 3 (T:=38) Tryz.underlying41 rfl rfl rfl (by kernel_rfl) qm9_ h hw
 obtain ⟨ho,_,f4⟩:=qh_ 3 5 1 (T:=3) Tryz.underlying41 rfl rfl rfl (by kernel_rfl) (opn_int Tryz.underlying3) h hw
 obtain ⟨wi,_,f5⟩:=qh_ 4 6 1 (T:=3) Tryz.underlying41 rfl rfl rfl (by kernel_rfl) (opn_int Tryz.underlying3) h hw
 obtain ⟨n,hn,f6⟩:=qh_ 5 7 1 (T:=39) Tryz.underlying41 rfl rfl rfl (by kernel_rfl) (opn_slice (k:=2) Tryz.underlying39 (by kernel_rfl) (by omega) qh5_) h hw
 have:=Fit.cons 0 1 f1 rfl (Fit.cons 1 2 f2 rfl (Fit.cons 2 5 f3 rfl (Fit.cons 5 6 f4 rfl (Fit.cons 6 7 f5 rfl (Fit.cons 7 8 f6 rfl (Fit.last 8 hl))))))
 rw [List.drop_zero] at this
 exact ⟨⟨k,s,c,ho,wi,n⟩,sizeZ (k:=16) (by kernel_rfl) hn.2,this⟩⟩
theorem qkm_:Opn Tryz.prog 24 (fun N:List Gp.Node=>.agg [.sl nodeV N]) (fun N=>N.length*96≤140737488355328∧∀ n∈N,n.ins.length*16≤140737488355328):=⟨fun en w fuel cs d p h hw=>by
 have hl:cs.length=1:=(q5_ Tryz.underlying24 h).trans (by kernel_rfl)
 obtain ⟨k,hk,f1⟩:=qh_ 0 0 1 (T:=22) Tryz.underlying24 rfl rfl rfl (by kernel_rfl) (opn_slice (k:=8) Tryz.underlying22 (by kernel_rfl) (by omega) qly_) h hw
 have:=Fit.cons 0 1 f1 rfl (Fit.last 1 hl)
 rw [List.drop_zero] at this
 exact ⟨k,⟨sizeZ (k:=96) (by kernel_rfl) hk.2,hk.1⟩,this⟩⟩
theorem qkp_:Opn Tryz.prog 56 fileV (fun f=>f.b.length≤140737488355328):=⟨fun en w fuel cs d p h hw=>by
 have hl:cs.length=2:=(q5_ Tryz.underlying56 h).trans (by kernel_rfl)
 obtain ⟨k,_,f1⟩:=qh_ 0 0 1 (T:=9) Tryz.underlying56 rfl rfl rfl (by kernel_rfl) (vy_ Tryz.underlying9) h hw
 obtain ⟨n,hn,f3⟩:=qh_ 1 1 1 (T:=28) Tryz.underlying56 rfl rfl rfl (by kernel_rfl) (opn_slice (k:=1) Tryz.underlying28 (by kernel_rfl) (by omega) (qdc_ Tryz.underlying5)) h hw
 have:=Fit.cons 0 1 f1 rfl (Fit.cons 1 2 f3 rfl (Fit.last 2 hl))
 rw [List.drop_zero] at this
 exact ⟨⟨k,n⟩,bytesZ hn,this⟩⟩
theorem qk9_:Opn Tryz.prog 50 pipeV (fun p=>p.b.length≤140737488355328):=⟨fun en w fuel cs d p h hw=>by
 have hl:cs.length=4:=(q5_ Tryz.underlying50 h).trans (by kernel_rfl)
 obtain ⟨b,hb,f1⟩:=qh_ 0 0 1 (T:=28) Tryz.underlying50 rfl rfl rfl (by kernel_rfl) vk_ h hw
 obtain ⟨n,_,f2⟩:=qh_ 1 1 1 (T:=3) Tryz.underlying50 rfl rfl rfl (by kernel_rfl) (opn_int Tryz.underlying3) h hw
 obtain ⟨c,_,f3⟩:=qh_ 2 2 1 (T:=4) Tryz.underlying50 rfl rfl rfl (by kernel_rfl) (w2_ Tryz.underlying4) h hw
 obtain ⟨s,_,f4⟩:=qh_ 3 3 1 (T:=4) Tryz.underlying50 rfl rfl rfl (by kernel_rfl) (w2_ Tryz.underlying4) h hw
 have:=Fit.cons 0 1 f1 rfl (Fit.cons 1 2 f2 rfl (Fit.cons 2 3 f3 rfl (Fit.cons 3 4 f4 rfl (Fit.last 4 hl))))
 rw [List.drop_zero] at this
 exact ⟨⟨b,n,c,s⟩,bytesZ hb,this⟩⟩
theorem qk2_:Opn Tryz.prog 44 procV (fun p=>(p.got.length*24≤140737488355328∧∀ b∈p.got,b.length≤140737488355328)∧(p.out.length*24≤140737488355328∧∀ b∈p.out,b.length≤140737488355328)):=⟨fun en w fuel cs d p h hw=>by
 have hl:cs.length=5:=(q5_ Tryz.underlying44 h).trans (by kernel_rfl)
 obtain ⟨g,hg,f1⟩:=qh_ 0 0 1 (T:=42) Tryz.underlying44 rfl rfl rfl (by kernel_rfl) (opn_slice (k:=1) Tryz.underlying42 (by kernel_rfl) (by omega) vk_) h hw
 obtain ⟨n,_,f2⟩:=qh_ 1 1 1 (T:=3) Tryz.underlying44 rfl rfl rfl (by kernel_rfl) (opn_int Tryz.underlying3) h hw
 obtain ⟨o,ho,f3⟩:=qh_ 2 2 1 (T:=42) Tryz.underlying44 rfl rfl rfl (by kernel_rfl) (opn_slice (k:=1) Tryz.underlying42 (by kernel_rfl) (by omega) vk_) h hw
 obtain ⟨r,_,f4⟩:=qh_ 3 3 1 (T:=4) Tryz.underlying44 rfl rfl rfl (by kernel_rfl) (w2_ Tryz.underlying4) h hw
 obtain ⟨s,_,f5⟩:=qh_ 4 4 1 (T:=4) Tryz.underlying44 rfl rfl rfl (by kernel_rfl) (w2_ Tryz.underlying4) h hw
 have:=Fit.cons 0 1 f1 rfl (Fit.cons 1 2 f2 rfl (Fit.cons 2 3 f3 rfl (Fit.cons 3 4 f4 rfl (Fit.cons 4 5 f5 rfl (Fit.last 5 hl)))))
 rw [List.drop_zero] at this
 exact ⟨⟨g,n,o,r,s⟩,⟨listZ hg,listZ ho⟩,this⟩⟩
theorem opn_machZ:Opn Tryz.prog 30 machV ownZ:=⟨fun en w fuel cs d p h hw=>by
 have hl:cs.length=5:=(q5_ Tryz.underlying30 h).trans (by kernel_rfl)
 obtain ⟨g,zg,f1⟩:=qh_ 0 0 1 (T:=24) Tryz.underlying30 rfl rfl rfl (by kernel_rfl) qkm_ h hw
 obtain ⟨f,zf,f2⟩:=qh_ 1 1 1 (T:=25) Tryz.underlying30 rfl rfl rfl (by kernel_rfl) (opn_slice (k:=2) Tryz.underlying25 (by kernel_rfl) (by omega) qkp_) h hw
 obtain ⟨q,zq,f3⟩:=qh_ 2 2 1 (T:=26) Tryz.underlying30 rfl rfl rfl (by kernel_rfl) (opn_slice (k:=4) Tryz.underlying26 (by kernel_rfl) (by omega) qk9_) h hw
 obtain ⟨o,zo,f4⟩:=qh_ 3 3 1 (T:=27) Tryz.underlying30 rfl rfl rfl (by kernel_rfl) (opn_slice (k:=5) Tryz.underlying27 (by kernel_rfl) (by omega) qk2_) h hw
 obtain ⟨s,zs,f5⟩:=qh_ 4 4 1 (T:=28) Tryz.underlying30 rfl rfl rfl (by kernel_rfl) vk_ h hw
 have:=Fit.cons 0 1 f1 rfl (Fit.cons 1 2 f2 rfl (Fit.cons 2 3 f3 rfl (Fit.cons 3 4 f4 rfl (Fit.cons 4 5 f5 rfl (Fit.last 5 hl)))))
 rw [List.drop_zero] at this
 exact ⟨⟨g,f,q,o,s⟩,⟨zg,⟨sizeZ (k:=40) (by kernel_rfl) zf.2,zf.1⟩,bytesZ zs,⟨sizeZ (k:=40) (by kernel_rfl) zq.2,zq.1⟩,sizeZ (k:=64) (by kernel_rfl) zo.2,zo.1⟩,this⟩⟩
end Gv
namespace Gv
variable [Glob] [Laid] [Nums] [Errs]
theorem xStepsT_ok:Pure Tryz.prog 9 xSteps_S:=qmh_
end Gv
