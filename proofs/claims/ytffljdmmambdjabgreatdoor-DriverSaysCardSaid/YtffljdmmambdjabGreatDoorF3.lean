/- What functions of the program come to, part 3: in every world; the conditions stand in each theorem. -/
import Derived.Test.YtffljdmmambdjabGreatDoorF2
set_option linter.unusedVariables false
set_option linter.unusedSectionVars false
set_option linter.unusedSimpArgs false
set_option maxHeartbeats 16000000
open Go Go.Proofs Gw Gp
namespace Gv
variable [Glob] [Laid]
theorem plan_ca:callable Tryz.prog 76=true:=by kernel_rfl
def plan_S:Spec:=fun args K=>∃ (f:List Bs) (c:List Cmd) (t:Bs) (w:Int),args=[.agg [.sl strV f,.sl cmdV c,.str t],.int .i64 w]∧K (.tup [.agg [.sl nodeV (plan ⟨f,c,t⟩ w).1],.int .i64 (plan ⟨f,c,t⟩ w).2])
noncomputable def plan_lib:List (Nat × Spec):=[(42,cline_S),(34,each_S),(67,for_S)]
noncomputable def plan_fns:List (Nat × FnI):=[(139,{fn:=Tryz.f139,hooks:=[],draws:=[(1,[0,0,2,6,14,30,0,64,254,511,1023,2047,4095])],frz:=true}),(140,{fn:=Tryz.f140,hooks:=[],draws:=[]}),(141,{fn:=Tryz.f141,hooks:=[],draws:=[(6,[0,0,2,6,14,0,32,0,224,480,1022,2047,4095,8191])]}),(142,{fn:=Tryz.f142,hooks:=[],draws:=[]})]
noncomputable def plan_prims:List (Nat × PSpec):=[]
theorem plan_E:EnvOK ⟨Tryz.prog,tys,plan_lib,plan_fns,plan_prims,[]⟩:=env_ok mixed0 tys0 (.cons cline_ca cline_ok (.cons each_ca each_ok (.cons for_ca for_ok .nil))) (.cons (by kernel_rfl) ⟨Tryz.func139,by kernel_rfl,by kernel_rfl⟩ (.cons (by kernel_rfl) ⟨Tryz.func140,by kernel_rfl,by kernel_rfl⟩ (.cons (by kernel_rfl) ⟨Tryz.func141,by kernel_rfl,by kernel_rfl⟩ (.cons (by kernel_rfl) ⟨Tryz.func142,by kernel_rfl,by kernel_rfl⟩ .nil)))) .nil rfl
theorem plan_ok:Pure Tryz.prog 76 plan_S:=by
 refine pure_by plan_E 6 (fi:={fn:=Tryz.f76,hooks:=[13,17,26],draws:=[(10,[0,0,2,6,14,0,0,64,224,480,1022,2047,4095,8191]),(26,[0,0,2,0,8,24,56,126,255])]}) ⟨Tryz.func76,by kernel_rfl,by kernel_rfl⟩ ?_
 rintro _ K ⟨f,c,t,w,rfl,hK⟩
 replace hK:∀ r,r=.tup [.agg [.sl nodeV (plan ⟨f,c,t⟩ w).1],.int .i64 (plan ⟨f,c,t⟩ w).2]→K r:=fun r h=>h ▸ hK
 refine ⟨f,c,t,rfl,?_⟩
 by_cases hc:checkLine ⟨f,c,t⟩=0
 rotate_left
 ·have e1:plan ⟨f,c,t⟩ w=([],checkLine ⟨f,c,t⟩):=by unfold plan;rw [if_pos hc]
  rw [e1] at hK
  generalize checkLine ⟨f,c,t⟩=e at hc hK ⊢
  repeat' first|(refine fun (b:Bool) hb=>?_;cases b<;>first|exact absurd hb (by decide)|exact nfl hb|exact nfr hb|skip)|(refine fun (hl:_≤MAXL)=>?_)|refine ⟨Gp.Node,nodeV,?_⟩|fail
  ·exfalso
   grind
  ·exfalso
   grind
  ·exfalso
   grind
  ·exact hK _ rfl
 rw [hc]
 by_cases hw:w<1∨5<w
 ·have e1:plan ⟨f,c,t⟩ w=([],3):=by unfold plan;rw [if_neg (by simp [hc]),if_pos hw]
  rw [e1] at hK
  repeat' first|(refine fun (b:Bool) hb=>?_;cases b<;>first|exact absurd hb (by decide)|exact nfl hb|exact nfr hb|skip)|(refine fun (hl:_≤MAXL)=>?_)|refine ⟨Gp.Node,nodeV,?_⟩|fail
  ·exfalso
   grind
  ·exact hK _ rfl
  ·exact hK _ rfl
 have e1:plan ⟨f,c,t⟩ w=(planNodes ⟨f,c,t⟩ w,0):=by unfold plan;rw [if_neg (by simp [hc]),if_neg hw]
 rw [e1] at hK
 repeat' first|(refine fun (b:Bool) hb=>?_;cases b<;>first|exact absurd hb (by decide)|exact nfl hb|exact nfr hb|skip)|(refine fun (hl:_≤MAXL)=>?_)|refine ⟨Gp.Node,nodeV,?_⟩|fail
 rotate_left
 ·exfalso
  grind
 ·exfalso
  grind
 have hfl:f.length≤4∧1≤f.length∧c.length≤6:=by
  unfold checkLine at hc
  split at hc
  ·cases hc
  ·rename_i h
   dsimp only at h
   omega
 have hfb:firstBad c=0:=by
  unfold checkLine at hc
  split at hc
  ·cases hc
  ·split at hc
   ·cases hc
   ·exact hc
 have hpl:=fun i hi=>steps_ok (l:=⟨f,c,t⟩) (wide:=w) ⟨hfl.2.1,hfl.1⟩ (by omega) i hi
 have hsr:=fun i=>srcs_len (f.take i)
 conv=>whnf
 refine loop_live [1,2,4,7,29,30] (σ:=Nat) (fun i=>[(31,.int .i64 i)]) (fun i=>[.box [.sl strV f,.sl cmdV c,.str t],.box [.nil],.box [.own 3,.own 4],.row 8 ((srcs (f.take i)).nodes.map nodeV),.row 2 ((srcs (f.take i)).cur.map portV)]) (fun i=>i≤f.length) (fun i=>f.length-i) 0 ?_
 conv=>whnf
 refine ⟨(by (refine wk_sel [some 0,some 1,some 2,none,none] rfl rfl ?_ ?_<;>(repeat' first|exact True.intro|exact rfl|exact .inl rfl|exact .inr rfl|refine And.intro ?_ ?_|fail))),Nat.zero_le _,fun i hi=>?_⟩
 have hsi:=hsr i
 have hst:∀ h:i<f.length,srcs (f.take (i+1))=(srcs (f.take i)).src f[i]:=fun h=>srcs_take h
 have hli:(f.take i).length≤4:=by simp;omega
 obtain ⟨d,hdq⟩:∃ d,srcs (f.take i)=d:=⟨_,rfl⟩
 rw [hdq] at hsi hst ⊢
 obtain ⟨hs1,hs2,-⟩:=hsi
 repeat' first|exact True.intro|(refine fun (b:Bool) hb=>?_;cases b<;>first|exact absurd hb (by decide)|exact nfl hb|exact nfr hb|skip)|refine ⟨_,⟨rfl,rfl⟩,?_⟩|refine And.intro (a:=chkPast _ _ _ _ _ _ _ _) ?_ ?_|refine ⟨_,rfl,?_,rfl,?_⟩|fail
 rotate_left
 ·grind
 ·have hi2:i<f.length:=by grind
  apply Exists.intro
  apply Exists.intro
  apply And.intro
  ·repeat' first|exact True.intro|refine ⟨_,⟨rfl,rfl⟩,?_⟩|refine And.intro (a:=chkPast _ _ _ _ _ _ _ _) ?_ ?_|fail
   refine ⟨_,⟨Gp.Port,portV,Gp.Node,nodeV,[srcN f[i]],LeL.refl _,rfl,rfl⟩,?_⟩
   refine ⟨_,_,⟨fun _=>rfl,?_,rfl,rfl⟩,?_⟩
   ·simp only [List.length_map,List.length_cons,List.length_nil,elsOf]
    omega
   repeat' first|exact True.intro|(refine fun (hl:_≤MAXL)=>?_)|refine And.intro (a:=I64 _) ?_ ?_|refine ⟨_,⟨rfl,rfl⟩,?_⟩|refine ⟨_,_,⟨rfl,rfl⟩,?_⟩|refine And.intro (a:=chkPend _ _ _ _ _ _) ?_ ?_|refine ⟨rfl,?_⟩|fail
   ·simp only [List.length_append,List.length_map,List.length_cons,List.length_nil]
    unfold I64
    omega
   ·exact rfl
  ·repeat' first|exact True.intro|refine And.intro (a:=chkPend _ _ _ _ _ _) ?_ ?_|refine ⟨⟨rfl,rfl⟩,?_⟩|fail
   refine ⟨_,⟨Gp.Port,portV,[⟨(((d.nodes.map nodeV++[srcN f[i]].map nodeV).length:Nat):Int)-1,0⟩],LeL.refl _,rfl,rfl⟩,?_⟩
   refine ⟨_,_,⟨fun _=>rfl,?_,rfl,rfl⟩,?_⟩
   ·simp only [List.length_map,List.length_cons,List.length_nil,elsOf]
    omega
   repeat' first|exact True.intro|refine And.intro (a:=I64 _) ?_ ?_|refine ⟨_,⟨rfl,rfl⟩,?_⟩|refine ⟨_,_,⟨rfl,rfl⟩,?_⟩|refine And.intro (a:=chkPend _ _ _ _ _ _) ?_ ?_|fail
   ·(first|omega|(unfold I64;omega)|(simp only [List.length_append,List.length_map,List.length_cons,List.length_nil,Nat.mul_one,Int.ofNat_eq_natCast] at *;omega)|(dsimp only at *;omega)|(unfold I64;dsimp only at *;omega)|(unfold I64;grind)|grind)
   ·refine ⟨i+1,?_,by omega,by omega⟩
    rw [hst hi2]
    refine wk_sel [some 0,some 1,some 2,some 7,some 8] rfl rfl ⟨?_,?_,?_,?_,?_,trivial⟩ ?_
    ·(repeat' first|exact True.intro|exact rfl|exact .inl rfl|exact .inr rfl|refine And.intro ?_ ?_|fail)
    ·(repeat' first|exact True.intro|exact rfl|exact .inl rfl|exact .inr rfl|refine And.intro ?_ ?_|fail)
    ·(repeat' first|exact True.intro|exact rfl|exact .inl rfl|exact .inr rfl|refine And.intro ?_ ?_|fail)
    ·show Row.row 8 _=Row.row 8 _
     simp [Desk.src]
    ·show Row.row 2 _=Row.row 2 _
     simp [Desk.src]
    ·(repeat' first|exact True.intro|exact rfl|exact .inl rfl|exact .inr rfl|refine And.intro ?_ ?_|fail)
 have hif:i=f.length:=by grind
 have hd1:d.cur.length=f.length:=by rw [hs2,hif,List.take_length]
 have hdd:d=srcs f:=by rw [←hdq,hif,List.take_length]
 clear hst
 conv=>whnf
 refine join_live [1,2,4,7] (σ:=Unit) (fun _=>[]) (fun _=>[.box [.sl strV f,.sl cmdV c,.str t],.box [.nil],.box [.own 3,.own 4],.row 8 (d.behind.nodes.map nodeV),.row 2 (d.behind.cur.map portV)]) (fun _=>True) ?_
 conv=>whnf
 refine ⟨?_,fun _ _=>?_⟩
 ·repeat' first|exact True.intro|refine ⟨_,_,_,LeL.refl _,?_⟩|(refine fun (b:Bool) hb=>?_;cases b<;>first|exact absurd hb (by decide)|exact nfl hb|exact nfr hb|skip)|(refine fun (hl:_≤MAXL)=>?_)|refine ⟨_,⟨rfl,rfl⟩,?_⟩|refine And.intro (a:=chkPast _ _ _ _ _ _ _ _) ?_ ?_|fail
  ·have e:d.behind=d:=by unfold Desk.behind;rw [if_neg (by simp only [List.length_map] at *;grind)]
   refine ⟨(),?_,trivial⟩
   rw [e]
   exact (by (refine wk_sel [some 0,some 1,some 2,some 3,some 4] rfl rfl ?_ ?_<;>(repeat' first|exact True.intro|exact rfl|exact .inl rfl|exact .inr rfl|refine And.intro ?_ ?_|fail)))
  have e:d.behind=⟨d.nodes++[joinN 1 zCmd d.cur],[⟨d.nodes.length,0⟩]⟩:=by unfold Desk.behind;rw [if_pos (by simp only [List.length_map] at *;grind)]
  refine ⟨_,⟨Gp.Node,nodeV,[joinN 1 zCmd d.cur],LeL.refl _,rfl,rfl⟩,?_⟩
  refine ⟨_,_,⟨fun _=>rfl,?_,rfl,rfl⟩,?_⟩
  ·simp only [List.length_map,List.length_cons,List.length_nil,elsOf]
   omega
  repeat' first|exact True.intro|(refine fun (hl:_≤MAXL)=>?_)|refine And.intro (a:=I64 _) ?_ ?_|refine ⟨_,⟨rfl,rfl⟩,?_⟩|refine ⟨_,_,⟨rfl,rfl⟩,?_⟩|refine And.intro (a:=chkPend _ _ _ _ _ _) ?_ ?_|fail
  ·simp only [List.length_append,List.length_map,List.length_cons,List.length_nil]
   unfold I64
   omega
  rw [e]
  refine ⟨(),?_,trivial⟩
  refine wk_sel [some 0,some 1,some 2,some 7,some 8] rfl rfl ⟨?_,?_,?_,?_,?_,trivial⟩ ?_
  ·(repeat' first|exact True.intro|exact rfl|exact .inl rfl|exact .inr rfl|refine And.intro ?_ ?_|fail)
  ·(repeat' first|exact True.intro|exact rfl|exact .inl rfl|exact .inr rfl|refine And.intro ?_ ?_|fail)
  ·(repeat' first|exact True.intro|exact rfl|exact .inl rfl|exact .inr rfl|refine And.intro ?_ ?_|fail)
  ·show Row.row 8 _=Row.row 8 _
   simp
  ·show Row.row 2 _=Row.row 2 _
   simp [portV]
  ·(repeat' first|exact True.intro|exact rfl|exact .inl rfl|exact .inr rfl|refine And.intro ?_ ?_|fail)
 rw [hdd]
 obtain ⟨b,hb⟩:∃ b,(srcs f).behind=b:=⟨_,rfl⟩
 have hpd:planDesk ⟨f,c,t⟩ w=(steps w b c).behind:=by unfold planDesk;rw [hb]
 simp only [hb] at hpl
 have hpn:planNodes ⟨f,c,t⟩ w=(steps w b c).behind.nodes++[sinkN t (steps w b c).behind.cur]:=by unfold planNodes;rw [hpd]
 rw [hb]
 repeat' first|(refine fun (hl:_≤MAXL)=>?_)|fail
 conv=>whnf
 refine loop_live [1,2,4,7,52,53] (σ:=Nat) (fun i=>[(54,.int .i64 i)]) (fun i=>[.box [.sl strV f,.sl cmdV c,.str t],.box [.nil],.box [.own 3,.own 4],.row 8 ((steps w b (c.take i)).nodes.map nodeV),.row 2 ((steps w b (c.take i)).cur.map portV)]) (fun i=>i≤c.length) (fun i=>c.length-i) 0 ?_
 conv=>whnf
 refine ⟨(by (refine wk_sel [some 0,some 1,some 2,some 3,some 4] rfl rfl ?_ ?_<;>(repeat' first|exact True.intro|exact rfl|exact .inl rfl|exact .inr rfl|refine And.intro ?_ ?_|fail))),Nat.zero_le _,fun i hi=>?_⟩
 have hpi:=hpl i hi
 obtain ⟨e,heq⟩:∃ e,steps w b (c.take i)=e:=⟨_,rfl⟩
 have hst:∀ h:i<c.length,steps w b (c.take (i+1))=e.step w c[i]:=fun h=>by rw [←heq];exact steps_take h
 rw [heq] at hpi ⊢
 have hwi:=desk_wide hpi (by omega)
 have hpi1:=hpi.len
 have hpi2:=hpi.cur
 repeat' first|(refine fun (b:Bool) hb=>?_;cases b<;>first|exact absurd hb (by decide)|exact nfl hb|exact nfr hb|skip)|refine ⟨_,rfl,?_,rfl,?_⟩|fail
 rotate_left
 ·grind
 ·have hi2:i<c.length:=by grind
  have hst:=hst hi2
  have hci:checkCmd c[i]=0:=firstBad_at hfb c[i] (List.getElem_mem hi2)
  have hjf:(joinFor c[i]).1=howFor c[i]:=by unfold joinFor;rw [if_pos hci]
  refine join_live [1,2,4,7,11,52,53,54] (σ:=Unit) (fun _=>[]) (fun _=>[.box [.sl strV f,.sl cmdV c,.str t],.box [.nil],.box [.own 3,.own 4],.row 8 ((e.wide w).nodes.map nodeV),.row 2 ((e.wide w).cur.map portV),.box [.int .i64 c[i].kind,.str c[i].word,.int .i64 c[i].n]]) (fun _=>True) ?_
  conv=>whnf
  refine ⟨?_,fun _ _=>?_⟩
  ·repeat' first|exact True.intro|refine ⟨_,_,_,LeL.refl _,?_⟩|(refine fun (b:Bool) hb=>?_;cases b<;>first|exact absurd hb (by decide)|exact nfl hb|exact nfr hb|skip)|(refine fun (hl:_≤MAXL)=>?_)|refine ⟨_,⟨rfl,rfl⟩,?_⟩|refine And.intro (a:=chkPast _ _ _ _ _ _ _ _) ?_ ?_|fail
   rotate_left
   ·have e1:e.wide w=e:=by unfold Desk.wide;rw [if_pos (by grind)]
    rw [e1]
    exact ⟨(),(by (refine wk_sel [some 0,some 1,some 2,some 3,some 4,some 5] rfl rfl ?_ ?_<;>(repeat' first|exact True.intro|exact rfl|exact .inl rfl|exact .inr rfl|refine And.intro ?_ ?_|fail))),trivial⟩
   ·have e1:e.wide w=e:=by unfold Desk.wide;rw [if_pos (by simp only [List.length_map] at *;grind)]
    rw [e1]
    exact ⟨(),(by (refine wk_sel [some 0,some 1,some 2,some 3,some 4,some 5] rfl rfl ?_ ?_<;>(repeat' first|exact True.intro|exact rfl|exact .inl rfl|exact .inr rfl|refine And.intro ?_ ?_|fail))),trivial⟩
   have e1:e.wide w=⟨e.nodes++[splitN w e.cur],ports e.nodes.length w.toNat⟩:=by unfold Desk.wide;rw [if_neg (by simp only [List.length_map] at *;grind)]
   rw [e1]
   obtain ⟨W,rfl⟩:∃ W:Nat,w=W:=⟨w.toNat,by omega⟩
   refine ⟨_,⟨Gp.Node,nodeV,[splitN W e.cur],LeL.refl _,rfl,rfl⟩,?_⟩
   refine ⟨_,_,⟨fun _=>rfl,?_,rfl,rfl⟩,?_⟩
   ·simp only [List.length_map,List.length_cons,List.length_nil,elsOf]
    omega
   repeat' first|exact True.intro|(refine fun (hl:_≤MAXL)=>?_)|refine And.intro (a:=I64 _) ?_ ?_|refine ⟨_,⟨rfl,rfl⟩,?_⟩|refine ⟨_,_,⟨rfl,rfl⟩,?_⟩|refine And.intro (a:=chkPend _ _ _ _ _ _) ?_ ?_|fail
   ·simp only [List.length_append,List.length_map,List.length_cons,List.length_nil]
    unfold I64
    omega
   have hp0:(((e.nodes.map nodeV++[splitN W e.cur].map nodeV).length:Nat):Int)-1=e.nodes.length:=by simp
   have hn0:e.nodes.map nodeV++[splitN W e.cur].map nodeV=(e.nodes++[splitN W e.cur]).map nodeV:=by simp
   rw [hp0,hn0]
   conv=>whnf
   refine loop_live [0,4,27] (σ:=Nat) (fun k=>[(28,.int .i64 k)]) (fun k=>[.box [.sl strV f,.sl cmdV c,.str t],.box [.nil],.box [.own 8,.own 10],.dead,.dead,.box [.int .i64 c[i].kind,.str c[i].word,.int .i64 c[i].n],.dead,.dead,.row 8 ((e.nodes++[splitN W e.cur]).map nodeV),.box [.int .i64 e.nodes.length,.int .i64 0],.row 2 ((ports e.nodes.length k).map portV)]) (fun k=>k≤W) (fun k=>W-k) 0 ?_
   conv=>whnf
   refine ⟨?_,Nat.zero_le _,fun k hk=>?_⟩
   ·exact (by (refine wk_sel [some 0,some 1,some 2,some 3,some 4,some 5,some 6,some 7,some 8,some 9,none] rfl rfl ?_ ?_<;>(repeat' first|exact True.intro|exact rfl|exact .inl rfl|exact .inr rfl|refine And.intro ?_ ?_|fail)))
   have hpk:=ports_succ e.nodes.length k
   have hpl3:=ports_len e.nodes.length k
   repeat' first|exact True.intro|(refine fun (b:Bool) hb=>?_;cases b<;>first|exact absurd hb (by decide)|exact nfl hb|exact nfr hb|skip)|refine ⟨_,⟨rfl,rfl⟩,?_⟩|refine And.intro (a:=chkPast _ _ _ _ _ _ _ _) ?_ ?_|fail
   ·have hkW:k=W:=by grind
    subst hkW
    refine ⟨(),?_,trivial⟩
    exact (by (refine wk_sel [some 0,some 1,some 2,some 8,some 10,some 5] rfl rfl ?_ ?_<;>(repeat' first|exact True.intro|exact rfl|exact .inl rfl|exact .inr rfl|refine And.intro ?_ ?_|fail)))
   refine ⟨_,⟨Gp.Port,portV,[⟨e.nodes.length,k⟩],LeL.refl _,rfl,rfl⟩,?_⟩
   refine ⟨_,_,⟨fun _=>rfl,?_,rfl,rfl⟩,?_⟩
   ·simp only [List.length_map,List.length_cons,List.length_nil,elsOf]
    omega
   repeat' first|exact True.intro|refine And.intro (a:=I64 _) ?_ ?_|refine ⟨_,⟨rfl,rfl⟩,?_⟩|refine ⟨_,_,⟨rfl,rfl⟩,?_⟩|refine And.intro (a:=chkPend _ _ _ _ _ _) ?_ ?_|fail
   ·(first|omega|(unfold I64;omega)|(simp only [List.length_append,List.length_map,List.length_cons,List.length_nil,Nat.mul_one,Int.ofNat_eq_natCast] at *;omega)|(dsimp only at *;omega)|(unfold I64;dsimp only at *;omega)|(unfold I64;grind)|grind)
   ·refine ⟨k+1,?_,by grind,by grind⟩
    rw [hpk]
    refine wk_sel [some 0,some 1,some 2,some 3,some 4,some 5,some 6,some 7,some 8,some 9,some 11] rfl rfl ⟨?_,?_,?_,?_,?_,?_,?_,?_,?_,?_,?_,trivial⟩ ?_
    all_goals try ((repeat' first|exact True.intro|exact rfl|exact .inl rfl|exact .inr rfl|refine And.intro ?_ ?_|fail);done)
    show Row.row 2 _=Row.row 2 _
    rw [List.map_append]
  repeat' first|(refine fun (hl:_≤MAXL)=>?_)|fail
  conv=>whnf
  obtain ⟨b',hb'⟩:∃ b',e.wide w=b':=⟨_,rfl⟩
  rw [hb'] at hwi
  rw [hb']
  refine loop_live [0,3,10,11] (σ:=Nat × Desk) (fun s=>[(4,.own 8),(12,.int .i64 s.1)]) (fun s=>[.box [.sl strV f,.sl cmdV c,.str t],.box [.nil],.box [.own 7,.own 4],.dead,.row 2 (b'.cur.map portV),.box [.int .i64 c[i].kind,.str c[i].word,.int .i64 c[i].n],.box [.int .i64 c[i].kind,.str c[i].word,.int .i64 c[i].n],.row 8 (s.2.nodes.map nodeV),.row 2 (s.2.cur.map portV)]) (fun s=>s.1≤b'.cur.length∧s.2=⟨b'.nodes++((b'.cur.take s.1).map fun p=>workN c[i] [p]),outs b'.nodes.length s.1⟩) (fun s=>b'.cur.length-s.1) (0,⟨b'.nodes,[]⟩) ?_
  conv=>whnf
  refine ⟨?_,⟨Nat.zero_le _,by simp [outs]⟩,fun s hs=>?_⟩
  ·exact (by (refine wk_sel [some 0,some 1,some 2,some 3,some 4,some 5,some 6,some 3,none] rfl rfl ?_ ?_<;>(repeat' first|exact True.intro|exact rfl|exact .inl rfl|exact .inr rfl|refine And.intro ?_ ?_|fail)))
  obtain ⟨j,q⟩:=s
  obtain ⟨hj,hq⟩:=hs
  dsimp only at hj hq
  have hqn:q.nodes.length=b'.nodes.length+j:=by
   rw [hq]
   simp
   omega
  have hqc:q.cur.length=j:=by
   rw [hq]
   simp [outs_len]
  repeat' first|(refine fun (b:Bool) hb=>?_;cases b<;>first|exact absurd hb (by decide)|exact nfl hb|exact nfr hb|skip)|refine ⟨rfl,?_⟩|fail
  rotate_left
  ·have hj2:j<b'.cur.length:=by simp only [List.length_map] at *;grind
   refine ⟨j,rfl,by simpa using hj2,?_⟩
   have hg:(List.map portV b'.cur)[j]?=some (portV b'.cur[j]):=by rw [List.getElem?_map,List.getElem?_eq_getElem hj2];rfl
   conv=>whnf
   refine ⟨portV b'.cur[j],hg,?_⟩
   skip
   refine ⟨Gp.Port,portV,[b'.cur[j]],LeL.refl _,?_⟩
   repeat' first|exact True.intro|refine ⟨_,⟨rfl,rfl⟩,?_⟩|refine And.intro (a:=chkPast _ _ _ _ _ _ _ _) ?_ ?_|fail
   refine ⟨_,⟨Gp.Node,nodeV,[workN c[i] [b'.cur[j]]],LeL.refl _,rfl,rfl⟩,?_⟩
   refine ⟨_,_,⟨fun _=>rfl,?_,rfl,rfl⟩,?_⟩
   ·simp only [List.length_map,List.length_cons,List.length_nil,elsOf]
    omega
   repeat' first|exact True.intro|(refine fun (hl:_≤MAXL)=>?_)|refine And.intro (a:=I64 _) ?_ ?_|refine And.intro (a:=_≤140737488355328) ?_ ?_|refine ⟨_,⟨rfl,rfl⟩,?_⟩|refine ⟨_,_,⟨rfl,rfl⟩,?_⟩|refine And.intro (a:=chkPend _ _ _ _ _ _) ?_ ?_|refine ⟨rfl,?_⟩|fail
   all_goals try ((first|omega|(unfold I64;omega)|(simp only [List.length_append,List.length_map,List.length_cons,List.length_nil,Nat.mul_one,Int.ofNat_eq_natCast] at *;omega)|(dsimp only at *;omega)|(unfold I64;dsimp only at *;omega)|(unfold I64;grind)|grind);done)
   refine ⟨(j+1,⟨q.nodes++[workN c[i] [b'.cur[j]]],q.cur++[⟨((q.nodes.map nodeV++[workN c[i] [b'.cur[j]]].map nodeV).length:Int)-1,0⟩]⟩),?_,⟨?_,?_⟩,?_⟩
   rotate_left
   ·exact hj2
   ·rw [hq]
    have ep:(((b'.nodes++List.map (fun p=>workN c[i] [p]) (List.take j b'.cur)).map nodeV++[workN c[i] [b'.cur[j]]].map nodeV).length:Int)-1=(b'.nodes.length:Int)+(j:Int):=by
     simp only [List.length_append,List.length_map,List.length_take,List.length_cons,List.length_nil]
     omega
    dsimp only
    rw [ep]
    simp only [outs_succ,List.take_succ_eq_append_getElem hj2,List.map_append,List.append_assoc,List.map_cons,List.map_nil]
   ·show b'.cur.length-(j+1)<b'.cur.length-j
    omega
   have em1:(q.nodes++[workN c[i] [b'.cur[j]]]).map nodeV=q.nodes.map nodeV++[workN c[i] [b'.cur[j]]].map nodeV:=List.map_append
   have em2:∀ x:Port,(q.cur++[x]).map portV=q.cur.map portV++[x].map portV:=fun x=>List.map_append
   dsimp only
   rw [em1,em2]
   exact (by (refine wk_sel [some 0,some 1,some 2,some 3,some 4,some 5,some 6,some 13,some 15] rfl rfl ?_ ?_<;>(repeat' first|exact True.intro|exact rfl|exact .inl rfl|exact .inr rfl|refine And.intro ?_ ?_|fail)))
  have hjl:j=b'.cur.length:=by simp only [List.length_map] at *;grind
  have hwk:b'.work c[i]=q:=by rw [hq,hjl,List.take_length];rfl
  have hst:=hst
  have hek:each ⟨c[i].kind,c[i].word,c[i].n⟩=each c[i]:=rfl
  skip
  refine ⟨_,_,_,rfl,?_⟩
  repeat' first|(refine fun (b:Bool) hb=>?_;cases b<;>first|exact absurd hb (by decide)|exact nfl hb|exact nfr hb|skip)|refine And.intro (a:=I64 _) ?_ ?_|fail
  all_goals try ((first|omega|(unfold I64;omega)|(simp only [List.length_append,List.length_map,List.length_cons,List.length_nil,Nat.mul_one,Int.ofNat_eq_natCast] at *;omega)|(dsimp only at *;omega)|(unfold I64;dsimp only at *;omega)|(unfold I64;grind)|grind);done)
  rotate_left
  ·refine ⟨i+1,?_,hi2,by show c.length-(i+1)<c.length-i;omega⟩
   have e2:e.step w c[i]=q:=by unfold Desk.step;rw [hb',hwk,if_pos ?_];first|exact .inl (by assumption)|exact .inr (of_decide_eq_true (by assumption))
   rw [hst,e2]
   exact (by (refine wk_sel [some 0,some 1,some 2,some 7,some 8] rfl rfl ?_ ?_<;>(repeat' first|exact True.intro|exact rfl|exact .inl rfl|exact .inr rfl|refine And.intro ?_ ?_|fail)))
  ·refine ⟨i+1,?_,hi2,by show c.length-(i+1)<c.length-i;omega⟩
   have e2:e.step w c[i]=q:=by unfold Desk.step;rw [hb',hwk,if_pos ?_];first|exact .inl (by assumption)|exact .inr (of_decide_eq_true (by assumption))
   rw [hst,e2]
   exact (by (refine wk_sel [some 0,some 1,some 2,some 7,some 8] rfl rfl ?_ ?_<;>(repeat' first|exact True.intro|exact rfl|exact .inl rfl|exact .inr rfl|refine And.intro ?_ ?_|fail)))
  refine ⟨_,_,_,rfl,?_⟩
  repeat' first|exact True.intro|refine ⟨_,_,_,LeL.refl _,?_⟩|(refine fun (b:Bool) hb=>?_;cases b<;>first|exact absurd hb (by decide)|exact nfl hb|exact nfr hb|skip)|refine ⟨_,⟨rfl,rfl⟩,?_⟩|refine And.intro (a:=chkPast _ _ _ _ _ _ _ _) ?_ ?_|fail
  ·refine ⟨_,⟨Gp.Node,nodeV,[joinN (joinFor c[i]).1 zCmd q.cur],LeL.refl _,rfl,rfl⟩,?_⟩
   refine ⟨_,_,⟨fun _=>rfl,?_,rfl,rfl⟩,?_⟩
   ·simp only [List.length_map,List.length_cons,List.length_nil,elsOf]
    omega
   repeat' first|exact True.intro|(refine fun (hl:_≤MAXL)=>?_)|refine And.intro (a:=I64 _) ?_ ?_|refine ⟨_,⟨rfl,rfl⟩,?_⟩|refine ⟨_,_,⟨rfl,rfl⟩,?_⟩|refine And.intro (a:=chkPend _ _ _ _ _ _) ?_ ?_|fail
   all_goals try ((first|omega|(unfold I64;omega)|(simp only [List.length_append,List.length_map,List.length_cons,List.length_nil,Nat.mul_one,Int.ofNat_eq_natCast] at *;omega)|(dsimp only at *;omega)|(unfold I64;dsimp only at *;omega)|(unfold I64;grind)|grind);done)
   have hne:¬ (each c[i]=true∨w=1):=by
    rintro (h|h)
    ·exact absurd ((show each c[i]=false by assumption).symm.trans h) (by decide)
    ·exact of_decide_eq_false (by assumption) h
   have h4:¬ howFor c[i]=4:=by
    rw [←hjf]
    exact of_decide_eq_false (p:=(joinFor c[i]).1=4) (by assumption)
   have e2:e.step w c[i]=⟨q.nodes++[joinN (joinFor c[i]).1 zCmd q.cur],[⟨((q.nodes.map nodeV++[joinN (joinFor c[i]).1 zCmd q.cur].map nodeV).length:Int)-1,0⟩]⟩:=by
    unfold Desk.step Desk.fin
    rw [hb',hwk,if_neg hne,if_neg h4,hjf]
    simp
   refine ⟨i+1,?_,hi2,by show c.length-(i+1)<c.length-i;omega⟩
   rw [hst,e2]
   have em1:(q.nodes++[joinN (joinFor c[i]).1 zCmd q.cur]).map nodeV=q.nodes.map nodeV++[joinN (joinFor c[i]).1 zCmd q.cur].map nodeV:=List.map_append
   dsimp only
   rw [em1]
   exact (by (refine wk_sel [some 0,some 1,some 2,some 12,some 13] rfl rfl ?_ ?_<;>(repeat' first|exact True.intro|exact rfl|exact .inl rfl|exact .inr rfl|refine And.intro ?_ ?_|fail)))
  ·refine ⟨_,⟨Gp.Node,nodeV,[joinN (joinFor c[i]).1 c[i] q.cur],LeL.refl _,rfl,rfl⟩,?_⟩
   refine ⟨_,_,⟨fun _=>rfl,?_,rfl,rfl⟩,?_⟩
   ·simp only [List.length_map,List.length_cons,List.length_nil,elsOf]
    omega
   repeat' first|exact True.intro|(refine fun (hl:_≤MAXL)=>?_)|refine And.intro (a:=I64 _) ?_ ?_|refine ⟨_,⟨rfl,rfl⟩,?_⟩|refine ⟨_,_,⟨rfl,rfl⟩,?_⟩|refine And.intro (a:=chkPend _ _ _ _ _ _) ?_ ?_|fail
   all_goals try ((first|omega|(unfold I64;omega)|(simp only [List.length_append,List.length_map,List.length_cons,List.length_nil,Nat.mul_one,Int.ofNat_eq_natCast] at *;omega)|(dsimp only at *;omega)|(unfold I64;dsimp only at *;omega)|(unfold I64;grind)|grind);done)
   have hne:¬ (each c[i]=true∨w=1):=by
    rintro (h|h)
    ·exact absurd ((show each c[i]=false by assumption).symm.trans h) (by decide)
    ·exact of_decide_eq_false (by assumption) h
   have h4:howFor c[i]=4:=by
    rw [←hjf]
    exact of_decide_eq_true (p:=(joinFor c[i]).1=4) (by assumption)
   have e2:e.step w c[i]=⟨q.nodes++[joinN (joinFor c[i]).1 c[i] q.cur],[⟨((q.nodes.map nodeV++[joinN (joinFor c[i]).1 c[i] q.cur].map nodeV).length:Int)-1,0⟩]⟩:=by
    unfold Desk.step Desk.fin
    rw [hb',hwk,if_neg hne,if_pos h4,hjf]
    simp
   refine ⟨i+1,?_,hi2,by show c.length-(i+1)<c.length-i;omega⟩
   rw [hst,e2]
   have em1:(q.nodes++[joinN (joinFor c[i]).1 c[i] q.cur]).map nodeV=q.nodes.map nodeV++[joinN (joinFor c[i]).1 c[i] q.cur].map nodeV:=List.map_append
   dsimp only
   rw [em1]
   exact (by (refine wk_sel [some 0,some 1,some 2,some 12,some 13] rfl rfl ?_ ?_<;>(repeat' first|exact True.intro|exact rfl|exact .inl rfl|exact .inr rfl|refine And.intro ?_ ?_|fail)))
 have hil:i=c.length:=by grind
 have hel:steps w b c=e:=by rw [←heq,hil,List.take_length]
 conv=>whnf
 refine join_live [2,4,7] (σ:=Unit) (fun _=>[]) (fun _=>[.box [.sl strV f,.sl cmdV c,.str t],.box [.nil],.box [.own 3,.own 4],.row 8 (e.behind.nodes.map nodeV),.row 2 (e.behind.cur.map portV)]) (fun _=>True) ?_
 conv=>whnf
 refine ⟨?_,fun _ _=>?_⟩
 ·repeat' first|exact True.intro|refine ⟨_,_,_,LeL.refl _,?_⟩|(refine fun (b:Bool) hb=>?_;cases b<;>first|exact absurd hb (by decide)|exact nfl hb|exact nfr hb|skip)|(refine fun (hl:_≤MAXL)=>?_)|refine ⟨_,⟨rfl,rfl⟩,?_⟩|refine And.intro (a:=chkPast _ _ _ _ _ _ _ _) ?_ ?_|fail
  ·have e2:e.behind=e:=by unfold Desk.behind;rw [if_neg (by simp only [List.length_map] at *;grind)]
   refine ⟨(),?_,trivial⟩
   rw [e2]
   exact (by (refine wk_sel [some 0,some 1,some 2,some 3,some 4] rfl rfl ?_ ?_<;>(repeat' first|exact True.intro|exact rfl|exact .inl rfl|exact .inr rfl|refine And.intro ?_ ?_|fail)))
  have e2:e.behind=⟨e.nodes++[joinN 1 zCmd e.cur],[⟨e.nodes.length,0⟩]⟩:=by unfold Desk.behind;rw [if_pos (by simp only [List.length_map] at *;grind)]
  refine ⟨_,⟨Gp.Node,nodeV,[joinN 1 zCmd e.cur],LeL.refl _,rfl,rfl⟩,?_⟩
  refine ⟨_,_,⟨fun _=>rfl,?_,rfl,rfl⟩,?_⟩
  ·simp only [List.length_map,List.length_cons,List.length_nil,elsOf]
   omega
  repeat' first|exact True.intro|(refine fun (hl:_≤MAXL)=>?_)|refine And.intro (a:=I64 _) ?_ ?_|refine ⟨_,⟨rfl,rfl⟩,?_⟩|refine ⟨_,_,⟨rfl,rfl⟩,?_⟩|refine And.intro (a:=chkPend _ _ _ _ _ _) ?_ ?_|fail
  ·simp only [List.length_append,List.length_map,List.length_cons,List.length_nil]
   unfold I64
   omega
  rw [e2]
  refine ⟨(),?_,trivial⟩
  refine wk_sel [some 0,some 1,some 2,some 7,some 8] rfl rfl ⟨?_,?_,?_,?_,?_,trivial⟩ ?_
  ·(repeat' first|exact True.intro|exact rfl|exact .inl rfl|exact .inr rfl|refine And.intro ?_ ?_|fail)
  ·(repeat' first|exact True.intro|exact rfl|exact .inl rfl|exact .inr rfl|refine And.intro ?_ ?_|fail)
  ·(repeat' first|exact True.intro|exact rfl|exact .inl rfl|exact .inr rfl|refine And.intro ?_ ?_|fail)
  ·show Row.row 8 _=Row.row 8 _
   simp
  ·show Row.row 2 _=Row.row 2 _
   simp [portV]
  ·(repeat' first|exact True.intro|exact rfl|exact .inl rfl|exact .inr rfl|refine And.intro ?_ ?_|fail)
 obtain ⟨z,hz⟩:∃ z,e.behind=z:=⟨_,rfl⟩
 have hzl:z.nodes.length≤60∧z.cur.length≤60:=by
  rw [←hz]
  unfold Desk.behind
  split
  ·simp;omega
  ·omega
 rw [hel,hz] at hpn
 rw [hz]
 repeat' first|exact True.intro|refine ⟨_,⟨rfl,rfl⟩,?_⟩|refine And.intro (a:=chkPast _ _ _ _ _ _ _ _) ?_ ?_|fail
 apply Exists.intro
 apply Exists.intro
 apply And.intro
 ·repeat' first|exact True.intro|refine ⟨_,_,_,LeL.refl _,?_⟩|refine ⟨_,⟨rfl,rfl⟩,?_⟩|refine And.intro (a:=chkPast _ _ _ _ _ _ _ _) ?_ ?_|fail
  refine ⟨_,⟨Gp.Node,nodeV,[sinkN t z.cur],LeL.refl _,rfl,rfl⟩,?_⟩
  refine ⟨_,_,⟨fun _=>rfl,?_,rfl,rfl⟩,?_⟩
  ·simp only [List.length_map,List.length_cons,List.length_nil,elsOf]
   omega
  repeat' first|exact True.intro|(refine fun (hl:_≤MAXL)=>?_)|refine And.intro (a:=I64 _) ?_ ?_|refine ⟨_,⟨rfl,rfl⟩,?_⟩|refine ⟨_,_,⟨rfl,rfl⟩,?_⟩|refine And.intro (a:=chkPend _ _ _ _ _ _) ?_ ?_|refine ⟨rfl,?_⟩|fail
  ·simp only [List.length_append,List.length_map,List.length_cons,List.length_nil]
   unfold I64
   omega
  ·exact rfl
 repeat' first|exact True.intro|refine And.intro (a:=chkPend _ _ _ _ _ _) ?_ ?_|fail
 refine ⟨Gp.Node,nodeV,z.nodes++[sinkN t z.cur],by rw [List.map_append];exact LeL.refl _,?_⟩
 skip
 exact hK _ (by rw [hpn])
end Gv
namespace Gv
variable [Glob] [Laid] [Nums] [Errs]
theorem dLine_ca:callable Tryz.prog 14=true:=by kernel_rfl
def dLine_S:Spec:=fun args K=>∃ (F:List FileS) (f:List Bs) (c:List Cmd) (t:Bs) (w rm:Int) (ps:List Int),args=[.sl fileV F,.agg [.sl strV f,.sl cmdV c,.str t],.int .i64 w,.int .i64 rm,.sl intV ps]∧K (.tup [.sl byteV (driveS F ⟨f,c,t⟩ w rm ps.length).1,.int .i64 (driveS F ⟨f,c,t⟩ w rm ps.length).2])
noncomputable def dLine_lib:List (Nat × Spec):=[(76,plan_S),(85,gather_S),(86,newX_S),(87,runX_S),(88,finX_S)]
noncomputable def dLine_fns:List (Nat × FnI):=[]
noncomputable def dLine_prims:List (Nat × PSpec):=[]
theorem dLine_E:EnvOK ⟨Tryz.prog,tys,dLine_lib,dLine_fns,dLine_prims,[]⟩:=env_ok mixed0 tys0 (.cons plan_ca plan_ok (.cons gather_ca gather_ok (.cons newX_ca newX_ok (.cons runX_ca runX_ok (.cons finX_ca finX_ok .nil))))) .nil .nil rfl
theorem dLine_ok:Pure Tryz.prog 14 dLine_S:=by
 refine pure_by dLine_E 6 (fi:={fn:=Tryz.f14,hooks:=[],draws:=[]}) ⟨Tryz.func14,by kernel_rfl,by kernel_rfl⟩ ?_
 rintro _ K ⟨F,f,c,t,w,rm,ps,rfl,hK⟩
 replace hK:∀ r,r=.tup [.sl byteV (driveS F ⟨f,c,t⟩ w rm ps.length).1,.int .i64 (driveS F ⟨f,c,t⟩ w rm ps.length).2]→K r:=fun r h=>h ▸ hK
 obtain ⟨r,hr⟩:∃ r,plan ⟨f,c,t⟩ w=r:=⟨_,rfl⟩
 obtain ⟨s,hs⟩:∃ s,newP r.1 F rm=s:=⟨_,rfl⟩
 skip
 refine ⟨f,c,t,w,rfl,?_⟩
 rw [hr]
 repeat' first|(refine fun (b:Bool) hb=>?_;cases b<;>first|exact absurd hb (by decide)|exact nfl hb|exact nfr hb|skip)|fail
 rotate_left
 ·have h0:r.2≠0:=by simpa using ‹(!decide (r.2=0))=true›
  conv=>whnf
  skip
  refine ⟨UInt8,byteV,?_⟩
  refine hK _ ?_
  unfold driveS
  rw [hr,if_pos h0]
 have hr0:r.2=0:=by simpa using ‹(!decide (r.2=0))=false›
 obtain ⟨hc,h5,rfl⟩:=planD_ok hr hr0
 dsimp only at hs
 conv=>whnf
 skip
 refine ⟨F,f,rfl,?_⟩
 obtain ⟨g,hg⟩:∃ g,gatherS F f=g:=⟨_,rfl⟩
 rw [hg]
 repeat' first|(refine fun (b:Bool) hb=>?_;cases b<;>first|exact absurd hb (by decide)|exact nfl hb|exact nfr hb|skip)|fail
 rotate_left
 ·have h0:g.2≠0:=by simpa using ‹(!decide (g.2=0))=true›
  conv=>whnf
  skip
  refine ⟨UInt8,byteV,?_⟩
  refine hK _ ?_
  unfold driveS
  rw [hr,if_neg (fun h=>h rfl),hg,if_pos h0]
 have h0:g.2=0:=by simpa using ‹(!decide (g.2=0))=false›
 have hgv:=gather_val (F:=F) (f:=f) (by rw [hg];exact h0)
 conv=>whnf
 skip
 refine ⟨planNodes ⟨f,c,t⟩ w,F,rm,rfl,?_⟩
 rw [hs]
 repeat' first|(refine fun (b:Bool) hb=>?_;cases b<;>first|exact absurd hb (by decide)|exact nfl hb|exact nfr hb|skip)|fail
 rotate_left
 ·have hs0:s.2≠0:=by simpa using ‹(!decide (s.2=0))=true›
  have hx:(rm<1∨1000<rm)∧s.2=3:=by
   unfold newP at hs
   rw [if_neg (fun h=>h (plan_gf hc h5).1),if_neg (fun h=>h hgv.1)] at hs
   split at hs
   ·rename_i h;exact ⟨h,by rw [←hs]⟩
   ·rw [←hs] at hs0;exact absurd rfl hs0
  conv=>whnf
  skip
  refine ⟨UInt8,byteV,?_⟩
  refine hK _ ?_
  unfold driveS
  rw [hr,if_neg (fun h=>h rfl),hg,if_neg (fun h=>h h0),if_pos hx.1,hx.2]
 have hs0:s.2=0:=by simpa using ‹(!decide (s.2=0))=false›
 obtain ⟨hgr,hf,h1,rfl⟩:=newD_ok hs hs0
 have G:=goesD (f:=F) (rm:=rm) hgr (plan_gf hc h5).2 hf h1
 rw [eval_plan hc h5 (F:=F) (by rw [hg];exact h0),hg] at G
 dsimp only at G
 generalize hv:put (doLines c (linesOf g.1))=v at G
 have hdr:driveS F ⟨f,c,t⟩ w rm ps.length=if 40000<ps.length then ([],2) else (v,0):=by
  unfold driveS
  rw [hr,if_neg (fun h=>h rfl),hg,if_neg (fun h=>h h0),if_neg (by omega),hv]
 rw [hdr] at hK
 generalize hN:planNodes ⟨f,c,t⟩ w=N at *
 have c0:=G.ck _ G.fresh
 conv=>whnf
 skip
 refine ⟨freshM N F rm,ps,Ok F N rm,rfl,fun _=>⟨right_copy (right_of c0),G.fresh,G.steps⟩,?_⟩
 unfold runP
 rw [if_neg (by rw [c0];decide)]
 by_cases h4:40000<ps.length
 ·rw [if_pos h4]
  rw [if_pos h4] at hK
  repeat' first|(refine fun (b:Bool) hb=>?_;cases b<;>first|exact absurd hb (by decide)|exact nfl hb|exact nfr hb|skip)|fail
  all_goals (try (conv=>whnf))
  all_goals (skip)
  all_goals (refine ⟨UInt8,byteV,?_⟩)
  all_goals (exact hK _ rfl)
 rw [if_neg h4]
 rw [if_neg h4] at hK
 have hO:=run_ok (gf_of hgr) ps (freshM N F rm) [] G.fresh
 generalize hM:(runGo ps (freshM N F rm) []).1=M at hO
 have c1:=G.ck _ hO
 obtain ⟨n,M2,f1,f2,f3,f4⟩:=G.fin _ hO
 repeat' first|(refine fun (b:Bool) hb=>?_;cases b<;>first|exact absurd hb (by decide)|exact nfl hb|exact nfr hb|skip)|fail
 conv=>whnf
 skip
 refine ⟨M,n,(M2,0),Ok F N rm,rfl,⟨fun _=>⟨right_copy (right_of c1),hO,G.steps,f1⟩,fun h=>absurd c1 h⟩,?_⟩
 repeat' first|(refine fun (b:Bool) hb=>?_;cases b<;>first|exact absurd hb (by decide)|exact nfl hb|exact nfr hb|skip)|fail
 conv=>whnf
 skip
 refine hK _ ?_
 show _=V.tup [.sl byteV v,.int .i64 0]
 rw [←f4]
end Gv
namespace Gv
variable [Glob] [Laid]
theorem scheckS_ca:callable Tryz.prog 43=true:=by kernel_rfl
def scheckS_S:Spec:=fun args K=>∃ (l:List LineS),args=[.sl lineV l]∧K (.int .i64 (checkS l))
noncomputable def scheckS_lib:List (Nat × Spec):=[(42,cline_S)]
noncomputable def scheckS_fns:List (Nat × FnI):=[]
noncomputable def scheckS_prims:List (Nat × PSpec):=[]
theorem scheckS_E:EnvOK ⟨Tryz.prog,tys,scheckS_lib,scheckS_fns,scheckS_prims,[]⟩:=env_ok mixed0 tys0 (.cons cline_ca cline_ok .nil) .nil .nil rfl
theorem scheckS_ok:Pure Tryz.prog 43 scheckS_S:=by
 refine pure_by scheckS_E 6 (fi:={fn:=Tryz.f43,hooks:=[],draws:=[]}) ⟨Tryz.func43,by kernel_rfl,by kernel_rfl⟩ ?_
 rintro _ K ⟨l,rfl,hK⟩
 replace hK:∀ r,r=.int .i64 (checkS l)→K r:=fun r h=>h ▸ hK
 unfold checkS at hK
 repeat' first|(refine fun (b:Bool) hb=>?_;cases b<;>first|exact absurd hb (by decide)|exact nfl hb|exact nfr hb|skip)|(refine fun (hl:_≤MAXL)=>?_)|fail
 rotate_left
 ·refine hK _ ?_
  rw [if_pos (by grind)]
 have h6:¬ 6<l.length:=by grind
 rw [if_neg h6] at hK
 conv=>whnf
 refine loop_live [9,10] (σ:=Nat) (fun i=>[(11,.int .i64 i)]) (fun _=>[]) (fun i=>i≤l.length∧linesBad (l.drop i)=linesBad l) (fun i=>l.length-i) 0 ?_
 conv=>whnf
 refine ⟨(by (refine wk_auto ?_;refine Sel4.mk rfl rfl ?_ ?_<;>(repeat' first|exact True.intro|exact rfl|exact .inl rfl|exact .inr rfl|refine And.intro ?_ ?_|fail))),⟨Nat.zero_le _,rfl⟩,fun i hi=>?_⟩
 obtain ⟨hi,hI⟩:=hi
 repeat' first|(refine fun (b:Bool) hb=>?_;cases b<;>first|exact absurd hb (by decide)|exact nfl hb|exact nfr hb|skip)|refine ⟨_,rfl,?_,rfl,?_⟩|fail
 ·refine hK _ ?_
  have e:l.drop i=[]:=List.drop_eq_nil_of_le (by grind)
  rw [e] at hI
  rw [←hI]
  rfl
 ·grind
 have hi2:i<l.length:=by grind
 have hd:l.drop i=l[i]::l.drop (i+1):=List.drop_eq_getElem_cons hi2
 rw [hd] at hI
 refine ⟨l[i].frm,l[i].cmds,l[i].to,rfl,?_⟩
 have hb0:linesBad (l[i]::l.drop (i+1))=if checkLine l[i]≠0 then checkLine l[i] else linesBad (l.drop (i+1)):=rfl
 rw [show checkLine ⟨l[i].frm,l[i].cmds,l[i].to⟩=checkLine l[i] from rfl]
 generalize checkLine l[i]=e at hb0 ⊢
 repeat' first|(refine fun (b:Bool) hb=>?_;cases b<;>first|exact absurd hb (by decide)|exact nfl hb|exact nfr hb|skip)|refine And.intro (a:=I64 _) ?_ ?_|fail
 ·(first|omega|(unfold I64;omega)|(simp only [List.length_append,List.length_map,List.length_cons,List.length_nil,Nat.mul_one,Int.ofNat_eq_natCast] at *;omega)|(dsimp only at *;omega)|(unfold I64;dsimp only at *;omega)|(unfold I64;grind)|grind)
 ·refine ⟨i+1,(by (refine wk_auto ?_;refine Sel4.mk rfl rfl ?_ ?_<;>(repeat' first|exact True.intro|exact rfl|exact .inl rfl|exact .inr rfl|refine And.intro ?_ ?_|fail))),⟨by omega,?_⟩,by omega⟩
  rw [←hI,hb0,if_neg (by grind)]
 ·refine hK _ ?_
  have he:e≠0:=by grind
  rw [←hI,hb0,if_pos he]
end Gv
namespace Gv
variable [Glob] [Laid]
theorem copyO_ca:callable Tryz.prog 90=true:=by kernel_rfl
def copyO_P:PSpec:=fun args rows K=>∃ (l:List FileS),args=[.sl fileV l]∧rows=[]∧(l.length≤1000∧∀ f∈l,f.b.length≤1000000)∧K (.own 0) [.row 2 (l.map fileV)]
noncomputable def copyO_lib:List (Nat × Spec):=[(126,cloneB_S)]
noncomputable def copyO_fns:List (Nat × FnI):=[(52,{fn:=Tryz.f52,hooks:=[],draws:=[]})]
noncomputable def copyO_prims:List (Nat × PSpec):=[]
theorem copyO_E:EnvOK ⟨Tryz.prog,tys,copyO_lib,copyO_fns,copyO_prims,[]⟩:=env_ok mixed0 tys0 (.cons cloneB_ca cloneB_ok .nil) (.cons (by kernel_rfl) ⟨Tryz.func52,by kernel_rfl,by kernel_rfl⟩ .nil) .nil rfl
theorem copyO_prim:PrimOK Tryz.prog 90 copyO_P:=by
 refine prim_by copyO_E 6 copyO_ca (fi:={fn:=Tryz.f90,hooks:=[2],draws:=[]}) ⟨Tryz.func90,by kernel_rfl,by kernel_rfl⟩ ?_
 rintro args rows K ⟨l,rfl,rfl,⟨hl0,hfb⟩,hK⟩
 conv=>whnf
 refine join_live [] (σ:=Unit) (fun _=>[(0,.own 0)]) (fun _=>[.row 2 (l.map fileV)]) (fun _=>True) ?_
 conv=>whnf
 refine ⟨?_,fun _ _=>?_⟩
 ·repeat' first|(refine fun (b:Bool) hb=>?_;cases b<;>first|exact absurd hb (by decide)|exact nfl hb|exact nfr hb|skip)|refine And.intro (a:=_≤140737488355328) ?_ ?_|refine ⟨(fun _=>rfl),?_⟩|fail
  ·show (0+(l.map fileV).length)*40≤140737488355328
   rw [List.length_map]
   omega
  ·exact ⟨(),(by (refine wk_auto ?_;refine Sel4.mk rfl rfl ?_ ?_<;>(repeat' first|exact True.intro|exact rfl|exact .inl rfl|exact .inr rfl|refine And.intro ?_ ?_|fail))),trivial⟩
  ·have h:true=true→l=[]:=by assumption
   rw [h rfl]
   exact ⟨(),(by (refine wk_auto ?_;refine Sel4.mk rfl rfl ?_ ?_<;>(repeat' first|exact True.intro|exact rfl|exact .inl rfl|exact .inr rfl|refine And.intro ?_ ?_|fail))),trivial⟩
 repeat' first|(refine fun (hl:_≤MAXL)=>?_)|fail
 conv=>whnf
 refine loop_live [0,7,8] (σ:=Nat) (fun i=>[(9,.int .i64 i)]) (fun i=>[.row 2 (l.map fileV)]) (fun i=>i≤l.length) (fun i=>l.length-i) 0 ?_
 conv=>whnf
 refine ⟨(by (refine wk_auto ?_;refine Sel4.mk rfl rfl ?_ ?_<;>(repeat' first|exact True.intro|exact rfl|exact .inl rfl|exact .inr rfl|refine And.intro ?_ ?_|fail))),Nat.zero_le _,fun i hi=>?_⟩
 repeat' first|(refine fun (b:Bool) hb=>?_;cases b<;>first|exact absurd hb (by decide)|exact nfl hb|exact nfr hb|skip)|refine ⟨rfl,?_⟩|fail
 ·conv=>whnf
  exact hK
 have hlt:i<l.length:=by
  have h:=of_decide_eq_true (by assumption:decide ((i:Int)<((l.map fileV).length:Int))=true)
  rw [List.length_map] at h
  omega
 have hg:(l.map fileV)[i]?=some (fileV l[i]):=by rw [List.getElem?_map,List.getElem?_eq_getElem hlt];rfl
 have hlm:i<(l.map fileV).length:=by rw [List.length_map];exact hlt
 refine ⟨i,rfl,hlm,?_⟩
 conv=>whnf
 refine ⟨_,hg,?_⟩
 repeat' first|refine ⟨_,rfl,?_,rfl,?_⟩|fail
 ·exact hfb _ (List.getElem_mem hlt)
 refine ⟨i,rfl,hlm,?_⟩
 conv=>whnf
 refine ⟨_,hg,?_⟩
 repeat' first|refine And.intro (a:=I64 _) ?_ ?_|fail
 ·have hl1:(l.map fileV).length≤MAXL:=by assumption
  unfold I64;omega
 refine ⟨i+1,?_,hlt,by omega⟩
 (refine wk_auto ?_;refine Sel4.mk rfl rfl ?_ ?_<;>(repeat' first|exact True.intro|exact rfl|exact .inl rfl|exact .inr rfl|refine And.intro ?_ ?_|fail))
 have e:(l.map fileV).set i (fileV l[i])=l.map fileV:=by
  have:(l.map fileV)[i]'hlm=fileV l[i]:=by simp
  rw [←this,List.set_getElem_self]
 show Row.row 2 (l.map fileV)=Row.row 2 ((l.map fileV).set i (fileV l[i]))
 rw [e]
end Gv
namespace Gv
variable [Glob] [Laid]
set_option maxRecDepth 100000 in
theorem insF_in {m:Mem} {b vb cap vc i:Nat} {els:List V} {x:V} {arr xarr:Array Value} {T T':TypeId} {fz fz':Nat × Nat} {w:World} (hb:w.heap[b]?=some (.cells arr T fz)) (hv:w.heap[vb]?=some (.cells xarr T' fz')) (hne:vb≠b) (hz:noFk 2 arr.size fz) (hz':noFk 2 xarr.size fz') (he:ElsR m 2 els arr) (hx:ElsR m 2 [x] xarr)
  (hi:i<els.length) (hl:els.length≤1000) (hc:els.length+1≤cap) (hcap:cap≤MAXL) (hs:arr.size=cap*2) (hs':2≤xarr.size) :
  Calls Tryz.prog 127 #[.slice (some ⟨b,0,none⟩) els.length cap,.int .i64 i,.slice (some ⟨vb,0,none⟩) 1 vc] w fun e w'=>∃ A,e=.returned (.slice (some ⟨b,0,none⟩) (els.length+1) cap)∧Bel [b] w w'∧w'.heap[b]?=some (.cells A T fz)∧A.size=arr.size∧ElsR m 2 (els.take i++x::els.drop i) A:=by
 have hzE:tyOf Tryz.prog 67=some (.agg #[.string ⟨#[]⟩,.slice none 0 0],2,40,true):=by kernel_rfl
 have mixed:=mixed0
 have t1:=Tryz.underlying22;have a1:=Tryz.isAgg22;have z1:=Tryz.sizeOf22;have v1:=Tryz.zeroValue22;have u1:=run_underlying Tryz.underlying22
 have t2:=Tryz.underlying67;have a2:=Tryz.isAgg67;have z2:=Tryz.sizeOf67;have v2:=Tryz.zeroValue67;have u2:=run_underlying Tryz.underlying67
 have t3:=Tryz.underlying3;have a3:=Tryz.isAgg3;have z3:=Tryz.sizeOf3;have v3:=Tryz.zeroValue3;have u3:=run_underlying Tryz.underlying3
 have t4:=Tryz.underlying4;have a4:=Tryz.isAgg4;have z4:=Tryz.sizeOf4;have v4:=Tryz.zeroValue4;have u4:=run_underlying Tryz.underlying4
 have hfz':=hz'.2 (by decide)
 subst hfz'
 unfold MAXL at hcap
 have hov:∀ o lb cb,(callFunc 182 #[.slice (some ⟨vb,0,none⟩) 1 vc,.slice (some ⟨b,o,none⟩) lb cb]).run Tryz.prog w=.ok (.value (.bool false)) w:=fun o lb cb=>by
  rw [run_callFunc_extern Tryz.func182 (by kernel_rfl) (by kernel_rfl) (by kernel_rfl) (e:=Extern.SlicesOverlaps.overlaps #[22,22] #[4]) (by kernel_rfl),
   Lib.run_overlaps_apart w 22 4 67 Tryz.underlying22 2 Tryz.sizeOf67 ⟨vb,0,none⟩ ⟨b,o,none⟩ 1 vc lb cb hne T' T xarr.size arr.size (by simp [World.shape?,hv]) (by simp [World.shape?,hb]) (by omega) (by simp [World.frozen?,hv]) (by simp [World.frozen?,hv])]
  rfl
 have hw1:IntKind.i64.wrap ((i:Int)+1)=(i:Int)+1:=by rw [IntKind.wrap_i64];omega
 have hw2:IntKind.i64.wrap ((els.length:Int)+1)=(els.length:Int)+1:=by rw [IntKind.wrap_i64];omega
 have hb1:(0:Int)≤(i:Int)+1:=by omega
 have htn:((i:Int)+1).toNat=i+1:=by omega
 have hb3:(i:Int)≤(els.length:Int)+1:=by omega
 have hb2:¬ cap=i+1:=by omega
 have hb4:¬ cap=i:=by omega
 have hb5:(i:Int)+1≤(els.length:Int)+1:=by omega
 obtain ⟨new,hnl,hnr,hn1,hng⟩:=src_from (P:=Tryz.prog) (l:=els.length+1-i) (cap:=cap-i) hb he (Nat.le_of_lt hi)
 obtain ⟨w1,hr1,hbel1,hh1⟩:=run_copy_in (P:=Tryz.prog) (w:=w.drew) (T:=22) (U:=22) (b:=b) (o:=(i+1)*2) (dLen:=els.length+1-(i+1)) (dCap:=cap-(i+1)) (sLen:=els.length+1-i) (n:=els.length-i) (sv:=.slice (some ⟨b,i*2,none⟩) (els.length+1-i) (cap-i)) t1 hzE rfl (by simp only [Nat.min_def];split<;>omega) (hnr w.drew rfl) hn1 hb hz.1 (by rw [hnl,hs];omega) 3
 have hv1:w1.heap[vb]?=some (.cells xarr T' (0,0)):=by
  rw [hbel1.block vb (lt_of_heap (w:=w.drew) hv) (by simpa using hne)];exact hv
 obtain ⟨new2,hnl2,hnr2,hn12,hng2⟩:=src_from (P:=Tryz.prog) (w:=w1) (b:=vb) (i:=0) (l:=1) (cap:=vc) hv1 hx (Nat.zero_le _)
 simp only [List.length_cons,List.length_nil,Nat.zero_add,Nat.sub_zero,Nat.zero_mul,Nat.one_mul] at hnl2 hnr2 hng2
 obtain ⟨w2,hr2,hbel2,hh2⟩:=run_copy_in (P:=Tryz.prog) (w:=w1) (T:=22) (U:=22) (b:=b) (o:=i*2) (dLen:=els.length+1-i) (dCap:=cap-i) (sLen:=1) (n:=1) (sv:=.slice (some ⟨vb,0,none⟩) 1 vc) t1 hzE rfl (by simp only [Nat.min_def];split<;>omega) (hnr2 w1 rfl) hn12 hh1 (by rw [size_putL];exact hz.1) (by rw [hnl2,size_putL,hs];omega) 3
 have hA:ElsR m 2 (els.take i++x::els.drop i) (putL (putL arr ((i+1)*2) new) (i*2) new2):=by
  have b1:(i+1)*2+new.length≤arr.size:=by rw [hnl,hs];omega
  have b2:i*2+new2.length≤(putL arr ((i+1)*2) new).size:=by rw [hnl2,size_putL,hs];omega
  refine ElsR.ins he hx (Nat.le_of_lt hi) (fun j hj=>?_) (fun j hj=>?_) (fun j h1 h2=>?_)
  ·rw [get_putL _ _ _ b2,if_pos hj,get_putL _ _ _ b1,if_pos (by omega)]
  ·rw [get_putL _ _ _ b2,if_neg (by omega),if_pos (by omega),show i*2+j-i*2=j by omega]
   exact hng2 j (by omega)
  ·rw [get_putL _ _ _ b2,if_neg (by omega),if_neg (by omega),get_putL _ _ _ b1,if_neg (by omega),if_pos (by omega),hng _ (by omega)]
   congr 1;omega
 generalize hn:els.length=n at *
 go_enter Tryz.func127,Tryz.ntmps127
 go_wp2_with (simp only [hov])
 go_region_law_o (refine reg_copy rfl _ _ 22 22 rfl (by simp [Act.eval,Act.put,hb2]) (by simp [Act.eval,Act.put,hb4]) hr1 ?_)
 go_wp2_with (at_builtin;refine wpl_copy rfl _ _ 22 22 rfl rfl rfl hr2 ?_)
 go_ret
 refine ⟨_,rfl,((Bel.drew [b] w).trans hbel1).trans hbel2,hh2,by rw [size_putL,size_putL],hA⟩
set_option maxRecDepth 100000 in
theorem insF_grow {m:Mem} {b vb cap vc i:Nat} {els:List V} {x:V} {arr xarr:Array Value} {T T':TypeId} {fz fz':Nat × Nat} {w:World} (hb:w.heap[b]?=some (.cells arr T fz)) (hv:w.heap[vb]?=some (.cells xarr T' fz')) (he:ElsR m 2 els arr) (hx:ElsR m 2 [x] xarr)
  (hi:i<els.length) (hl:els.length≤1000) (hlc:els.length≤cap) (hc:cap<els.length+1) :
  Calls Tryz.prog 127 #[.slice (some ⟨b,0,none⟩) els.length cap,.int .i64 i,.slice (some ⟨vb,0,none⟩) 1 vc] w fun e w'=>∃ A nc,e=.returned (.slice (some ⟨w.heap.size,0,none⟩) (els.length+1) nc)∧els.length+1≤nc∧nc≤MAXL∧Bel [] w w'∧w'.heap[w.heap.size]?=some (.cells A 67 (0,0))∧A.size=nc*2∧ElsR m 2 (els.take i++x::els.drop i) A:=by
 have hzE:tyOf Tryz.prog 67=some (.agg #[.string ⟨#[]⟩,.slice none 0 0],2,40,true):=by kernel_rfl
 have mixed:=mixed0
 have t1:=Tryz.underlying22;have a1:=Tryz.isAgg22;have z1:=Tryz.sizeOf22;have v1:=Tryz.zeroValue22;have u1:=run_underlying Tryz.underlying22
 have t2:=Tryz.underlying67;have a2:=Tryz.isAgg67;have z2:=Tryz.sizeOf67;have v2:=Tryz.zeroValue67;have u2:=run_underlying Tryz.underlying67
 have t3:=Tryz.underlying3;have a3:=Tryz.isAgg3;have z3:=Tryz.sizeOf3;have v3:=Tryz.zeroValue3;have u3:=run_underlying Tryz.underlying3
 have t4:=Tryz.underlying4;have a4:=Tryz.isAgg4;have z4:=Tryz.sizeOf4;have v4:=Tryz.zeroValue4;have u4:=run_underlying Tryz.underlying4
 obtain ⟨i0,ui,hi0,hui,hiz,hik,hie,hig⟩:=tyOf_parts hzE
 have hw2:IntKind.i64.wrap ((els.length:Int)+1)=(els.length:Int)+1:=by rw [IntKind.wrap_i64];omega
 have hw1:IntKind.i64.wrap ((i:Int)+1)=(i:Int)+1:=by rw [IntKind.wrap_i64];omega
 have hw3:IntKind.i64.wrap ((els.length:Int)+1-(i:Int))=(els.length:Int)+1-(i:Int):=by rw [IntKind.wrap_i64];omega
 have hb1:(0:Int)≤(i:Int)+1:=by omega
 have htn:((i:Int)+1).toNat=i+1:=by omega
 have hb3:(i:Int)≤(els.length:Int)+1:=by omega
 have hb5:(i:Int)+1≤(els.length:Int)+1:=by omega
 have hb6:(i:Int)≤(cap:Int):=by omega
 have hb7:(i:Int)≤(els.length:Int):=by omega
 have hb8:i≤els.length:=by omega
 have hb9:i≤cap:=by omega
 have hbw:=lt_of_heap hb
 have hvw:=lt_of_heap hv
 have hkk:(els.length:Int)+1-(i:Int)=((els.length+1-i:Nat):Int):=by omega
 have hik2:i+(els.length+1-i)=els.length+1:=by omega
 have S:=src_block (P:=Tryz.prog) (m:=m) (w:=w) (b:=b) (off:=0) (k:=2) (cap:=cap) (ys:=els.take i) hb (fun t y hy=>by
  rw [List.getElem?_take] at hy
  split at hy
  ·simpa using he t y hy
  ·cases hy)
 have hti:(els.take i).length=i:=by rw [List.length_take];omega
 obtain ⟨olds,hol,hor,hog⟩:∃ olds:List Value,olds.length=i*2∧(Builtin.firstCells i0.size i (.slice (some ⟨b,0,none⟩) i cap)).run Tryz.prog w.drew=.ok olds.toArray w.drew∧∀ j,j<i*2→olds[j]?=arr[j]?:=by
  refine ⟨_,S.size.trans (by rw [hti]),by have:=S.run w.drew rfl;rw [hti] at this ⊢;rw [hik];exact this,fun j hj=>?_⟩
  rw [hti,List.getElem?_map,List.getElem?_range hj]
  obtain ⟨h1,h2,h3⟩:=index_split hj
  obtain ⟨g1,g2⟩:=he (j / 2) _ (List.getElem?_eq_getElem (by omega))
  obtain ⟨u,g3,g4⟩:=g2 (j % 2) _ (List.getElem?_eq_getElem (by omega))
  rw [h3] at g3
  simp [g3]
 have hrz:=Lib.run_append_grow_zeros w 22 3 22 67 i0 _ .i64 .i64 t1 t3 hi0 hiz (some ⟨b,0,none⟩) i cap olds hor (els.length+1-i) (by omega) (by omega) (by omega) (by omega) (by rw [hie];omega) (by rw [hie,hik2];exact growslice_fits hc (by omega))
 rw [hik2,←hkk] at hrz
 obtain ⟨G,hG⟩:∃ G,G=grownCap w (els.length+1) cap 67:=⟨_,rfl⟩
 have hGn:els.length+1≤G:=by rw [hG];exact grownCap_ge w _ _ _
 have hG63:G≤9223372036854775807:=by
  have:=grownCap_le_maxLen w (els.length+1) cap 67 (by unfold maxLen;omega)
  rw [←hG] at this
  unfold maxLen at this
  omega
 rw [←hG] at hrz
 generalize hROW:olds.toArray++Builtin.zeroCells _ (els.length+1-i)++Builtin.zeroCells _ (G-(els.length+1))=ROW at hrz
 have hRs:ROW.size=G*2:=by
  rw [←hROW]
  simp [zeroCells_size,hol,Value.cells]
  omega
 have hRo:∀ j,j<i*2→ROW[j]?=arr[j]?:=fun j hj=>by
  rw [←hROW,Array.append_assoc,Array.getElem?_append_left (by simp;omega)]
  simpa using hog j hj
 have hNh:(w.drew.alloc (.cells ROW 67)).heap[w.heap.size]?=some (.cells ROW 67 (0,0)):=Gw.heap_alloc_new w.drew _
 have hB0:Bel [] w (w.drew.alloc (.cells ROW 67)):=(Bel.drew [] w).trans (Bel.alloc [] _ _)
 generalize hW1:w.drew.alloc (.cells ROW 67)=W1 at *
 have hv1:W1.heap[vb]?=some (.cells xarr T' fz'):=by rw [hB0.block vb hvw (by simp)];exact hv
 have hbW1:W1.heap[b]?=some (.cells arr T fz):=by rw [hB0.block b hbw (by simp)];exact hb
 have hGi:¬ (G=i):=by omega
 have hGim:¬ (G=i+1):=by omega
 have hci:¬ (cap=i):=by omega
 obtain ⟨new2,hnl2,hnr2,hn12,hng2⟩:=src_from (P:=Tryz.prog) (w:=W1) (b:=vb) (i:=0) (l:=1) (cap:=vc) hv1 hx (Nat.zero_le _)
 simp only [List.length_cons,List.length_nil,Nat.zero_add,Nat.sub_zero,Nat.zero_mul,Nat.one_mul] at hnl2 hnr2 hng2
 obtain ⟨w2,hr2,hbel2,hh2⟩:=run_copy_in (P:=Tryz.prog) (w:=W1) (T:=22) (U:=22) (b:=w.heap.size) (o:=i*2) (dLen:=els.length+1-i) (dCap:=G-i) (sLen:=1) (n:=1) (sv:=.slice (some ⟨vb,0,none⟩) 1 vc) t1 hzE rfl (by simp only [Nat.min_def];split<;>omega) (hnr2 W1 rfl) hn12 hNh (noFz0 _) (by rw [hnl2,hRs];omega) 3
 have hb2:w2.drew.heap[b]?=some (.cells arr T fz):=by
  have:w2.heap[b]?=some (.cells arr T fz):=by rw [hbel2.block b (Nat.lt_of_lt_of_le hbw hB0.size) (by simp;omega)];exact hbW1
  exact this
 obtain ⟨new,hnl,hnr,hn1,hng⟩:=src_from (P:=Tryz.prog) (w:=w2.drew) (l:=els.length-i) (cap:=cap-i) hb2 he (Nat.le_of_lt hi)
 obtain ⟨w3,hr3,hbel3,hh3⟩:=run_copy_in (P:=Tryz.prog) (w:=w2.drew) (T:=22) (U:=22) (b:=w.heap.size) (o:=(i+1)*2) (dLen:=els.length+1-(i+1)) (dCap:=G-(i+1)) (sLen:=els.length-i) (n:=els.length-i) (sv:=.slice (some ⟨b,i*2,none⟩) (els.length-i) (cap-i)) t1 hzE rfl (by simp only [Nat.min_def];split<;>omega) (hnr w2.drew rfl) hn1 hh2 (noFz0 _) (by rw [hnl,size_putL,hRs];omega) 3
 have hA:ElsR m 2 (els.take i++x::els.drop i) (putL (putL ROW (i*2) new2) ((i+1)*2) new):=by
  have b1:i*2+new2.length≤ROW.size:=by rw [hnl2,hRs];omega
  have b2:(i+1)*2+new.length≤(putL ROW (i*2) new2).size:=by rw [hnl,size_putL,hRs];omega
  refine ElsR.ins he hx (Nat.le_of_lt hi) (fun j hj=>?_) (fun j hj=>?_) (fun j h1 h2=>?_)
  ·rw [get_putL _ _ _ b2,if_pos (by omega),get_putL _ _ _ b1,if_pos hj]
   exact hRo j hj
  ·rw [get_putL _ _ _ b2,if_pos (by omega),get_putL _ _ _ b1,if_neg (by omega),if_pos (by omega),show i*2+j-i*2=j by omega]
   exact hng2 j (by omega)
  ·rw [get_putL _ _ _ b2,if_neg (by omega),if_pos (by omega),hng _ (by omega)]
   congr 1;omega
 have hfin:Bel [] w w3:=by
  have h1:Bel [w.heap.size] w w3:=((hB0.weaken (by simp)).trans hbel2).trans ((Bel.drew _ w2).trans hbel3)
  exact h1.weaken fun k hk hx=>by simp at hx;omega
 have hsz:(putL (putL ROW (i*2) new2) ((i+1)*2) new).size=G*2:=by rw [size_putL,size_putL,hRs]
 clear hb hv he hx hB0 hol hor hog hnl hnr hn1 hng hnl2 hnr2 hn12 hng2 hbel2 hbel3 hh2 hb2 hbW1 hv1 hNh hRo hRs hROW hG S hti hW1 hik hie hig hui hiz hi0 hik2 hkk
 generalize hn:els.length=n at *
 go_enter Tryz.func127,Tryz.ntmps127
 go_wp2_with (first
  | (at_builtin;refine wpl_append rfl _ _ 22 3 rfl rfl rfl hrz ?_)
  | (at_builtin;refine wpl_copy rfl _ _ 22 22 rfl rfl rfl hr2 ?_))
 go_region_law_o (refine reg_copy rfl _ _ 22 22 rfl (by simp [Act.eval,Act.put,hGim]) (by simp [Act.eval,Act.put,hci]) hr3 ?_)
 go_wp2
 go_ret
 exact ⟨_,_,rfl,hGn,hG63,hfin,hh3,hsz,hA⟩
theorem insF_E:EnvOK ⟨Tryz.prog,tys,[],[],[],[]⟩:=env_ok mixed0 tys0 .nil .nil .nil rfl
set_option maxRecDepth 100000 in
theorem insF_end {w0:Start} {m0 R m:Mem} {q:Loc} {rows:Rows} {K:V→Rows→Prop} {w:World} {els:List V} {x:V} {r rv:Nat} {cap vc:Nat} {oa oa':Option Addr} (C:Cf w0 m0 rows R m q w) (hr:rows[r]?=some (.row 2 els)) (hrv:rows[rv]?=some (.row 2 [x]))
  (hl:els.length≤1000) (hv:VR m q (.own r) (.slice oa els.length cap)) (hv':VR m q (.own rv) (.slice oa' 1 vc)) (hK:setK rows r .dead fun a=>pushK 0 a (.row 2 (els++[x])) fun j b=>K (.own j) b) :
  Calls Tryz.prog 127 #[.slice oa els.length cap,.int .i64 els.length,.slice oa' 1 vc] w fun e w'=>∃ u,e=.returned u∧After w0 m0 m q K u w':=by
 have ha:appO ⟨Tryz.prog,tys,[],[],[],[]⟩ 22 (.own r) (.own rv) rows (fun v rows'=>K v rows'∧∃ j,v=.own j):=by
  rw [←nth_eq] at hr hrv
  obtain ⟨hrl,hK⟩:=setK_ok _ _ _ _ hK
  have hK:=pushK_ok _ _ _ _ hK
  refine (show elN 2 (.own rv) rows ∧ (match elsOf (.own rv) rows with
      | some ys => match nth rows r with
          | some (.row q els)=>match Nat.beq q 2 with
           | true=>(els.length+ys.length)*40≤140737488355328∧setK rows r .dead fun rows'=>pushK 0 rows' (.row 2 (els++ys)) fun r' rows''=>(fun v rows'=>K v rows'∧∃ j,v=.own j) (.own r') rows''
           | false=>False
          | _=>False
      | none=>False)→_ from fun h=>h) ⟨?_,?_⟩
  ·simp only [elN,hrv];rfl
  ·simp only [elsOf,hrv,hr]
   exact ⟨by simp;omega,setK_mk _ _ _ _ hrl (pushK_mk _ _ _ _ ⟨hK,_,rfl⟩)⟩
 obtain ⟨u,w',hrun,hA⟩:=appO_ok (T:=22) (U:=22) insF_E C hv hv' Tryz.underlying22 rfl ha 22
 obtain ⟨v,rows',R',m',q',⟨h1,j,rfl⟩,h2,h3,h4,h5⟩:=hA
 have hA:After w0 m0 m q K u w':=⟨_,rows',R',m',q',h1,h2,h3,h4,h5⟩
 obtain ⟨ua,un,uc,rfl⟩:∃ a n c,u=.slice a n c:=by
  cases h5;exact ⟨_,_,_,rfl⟩
 have mixed:=mixed0
 have t1:=Tryz.underlying22;have a1:=Tryz.isAgg22;have z1:=Tryz.sizeOf22;have v1:=Tryz.zeroValue22;have u1:=run_underlying Tryz.underlying22
 have t2:=Tryz.underlying67;have a2:=Tryz.isAgg67;have z2:=Tryz.sizeOf67;have v2:=Tryz.zeroValue67;have u2:=run_underlying Tryz.underlying67
 have t3:=Tryz.underlying3;have a3:=Tryz.isAgg3;have z3:=Tryz.sizeOf3;have v3:=Tryz.zeroValue3;have u3:=run_underlying Tryz.underlying3
 have t4:=Tryz.underlying4;have a4:=Tryz.isAgg4;have z4:=Tryz.sizeOf4;have v4:=Tryz.zeroValue4;have u4:=run_underlying Tryz.underlying4
 clear ha hK h1 h2 h3 h4 h5
 generalize hn:els.length=n at *
 go_enter Tryz.func127,Tryz.ntmps127
 go_wp2_with (at_builtin;refine wpl_append rfl _ _ 22 22 rfl rfl rfl hrun ?_)
 all_goals (go_ret;exact ⟨_,rfl,hA⟩)
theorem insF_ca:callable Tryz.prog 127=true:=by kernel_rfl
def insF_P:PSpec:=fun args rows K=>∃ (els:List V) (x:V) (i r rv:Nat),args=[.own r,.int .i64 i,.own rv]∧r≠rv∧rows[r]?=some (.row 2 els)∧rows[rv]?=some (.row 2 [x])∧i≤els.length∧els.length≤1000∧setK rows r .dead fun a=>pushK 0 a (.row 2 (els.take i++x::els.drop i)) fun j b=>K (.own j) b
theorem insF_prim:PrimOK Tryz.prog 127 insF_P:=by
 intro w0 m0 args rows K R m q w us C hv hT
 obtain ⟨els,x,i,r,rv,rfl,hne,hr,hrv,hi,hl,hK⟩:=hT
 have hlen:us.length=3:=by rw [←hv.len];rfl
 obtain ⟨u,u',u'',rfl⟩:∃ u u' u'',us=[u,u',u'']:=by
  match us,hlen with
  | [u,u',u''],_=>exact ⟨u,u',u'',rfl⟩
 have hu:=hv.el 0 (.own r) u rfl rfl
 have hu':=hv.el 1 (.int .i64 i) u' rfl rfl
 have hu'':=hv.el 2 (.own rv) u'' rfl rfl
 cases hu'
 refine ⟨insF_ca,?_⟩
 obtain ⟨ob,cap,g1,g2,g3,g4,g5⟩:=C.rok.row r _ hr
 obtain ⟨ob',cap',g1',g2',g3',g4',g5'⟩:=C.rok.row rv _ hrv
 have h0:=hu
 have h0'':=hu''
 cases hu with|own hq=>?_
 cases hu'' with|own hq''=>?_
 rw [g1] at hq;cases hq
 rw [g1'] at hq'';cases hq''
 by_cases hin:i=els.length
 ·subst hin
  rw [List.take_length,List.drop_length] at hK
  exact insF_end C hr hrv hl h0 h0'' hK
 have hlt:i<els.length:=by omega
 obtain ⟨b,rfl⟩:∃ b,ob=some b:=by
  cases ob with
  | some b=>exact ⟨b,rfl⟩
  | none=>have:=g4 rfl;omega
 obtain ⟨vb,rfl⟩:∃ b,ob'=some b:=by
  cases ob' with
  | some b=>exact ⟨b,rfl⟩
  | none=>have:=g4' rfl;simp at g2';omega
 obtain ⟨arr,T,fz,a1,a2,a3,a4⟩:=g5 b rfl
 obtain ⟨xarr,T',fz',b1,b2,b3,b4⟩:=g5' vb rfl
 have hbh:=(C.sit.own _ _ a1).2.1
 have hvh:=(C.sit.own _ _ b1).2.1
 have hbv:vb≠b:=fun e=>hne (C.rok.apart r rv _ _ b hr hrv rfl rfl (occ_one rfl g1) (occ_one rfl (e ▸ g1')))
 obtain ⟨hrl,hK⟩:=setK_ok _ _ _ _ hK
 have hK:=pushK_ok _ _ _ _ hK
 rw [Nat.zero_add,List.length_set] at hK
 have hlA:(els.take i++x::els.drop i).length=els.length+1:=by simp;omega
 by_cases hc:els.length+1≤cap
 ·refine (insF_in (m:=m) (vc:=cap') hbh hvh hbv a4 b4 a3 b3 hlt hl hc g3 a2 (by rw [b2];simp at g2';omega)).mono fun e w' he=>?_
  obtain ⟨A,rfl,hbel,hh,hs,hA⟩:=he
  have S':=C.sit.write a1 hbel hh
  have hnew:RowOK (R.put b (.cells A T fz)) m (q.add rows.length (some b,(els.take i++x::els.drop i).length,cap,2)) rows.length (.row 2 (els.take i++x::els.drop i)) :=
   ⟨some b,cap,add_self _ _ _,by rw [hlA];exact hc,g3,(fun h=>by cases h),fun b' hb'=>by cases hb';exact ⟨A,T,fz,by simp [Mem.put],by rw [hs,a2],hA,by rw [hs];exact a4⟩⟩
  refine ⟨_,rfl,_,_,_,_,_,hK,C.move hr rfl g1 S' hnew,Mem.Le.refl m,C.le_add _,?_⟩
  have:=VR.own (m:=m) (add_self q rows.length (some b,(els.take i++x::els.drop i).length,cap,2))
  rw [hlA] at this ⊢
  exact this
 ·refine (insF_grow (m:=m) (vc:=cap') hbh hvh a3 b3 hlt hl g2 (by omega)).mono fun e w' he=>?_
  obtain ⟨A,nc,rfl,h1,h2,hbel,hh,hs,hA⟩:=he
  have C2:=(C.kill hr).rowG hbel hh (noFk0 2 _) hs (els:=els.take i++x::els.drop i) (by rw [hlA];exact h1) h2 hA
  rw [List.length_set] at C2
  refine ⟨_,rfl,_,_,_,_,_,hK,C2,Mem.Le.refl m,C.le_add _,?_⟩
  have:=VR.own (m:=m) (add_self q rows.length (some w.heap.size,(els.take i++x::els.drop i).length,nc,2))
  rw [hlA] at this ⊢
  exact this
end Gv
namespace Gv
variable [Glob] [Laid]
theorem putF_ca:callable Tryz.prog 50=true:=by kernel_rfl
def putF_S:Spec:=fun args K=>∃ (F:List FileS) (n b:Bs),args=[.sl fileV F,.str n,.sl byteV b]∧K (.tup [.sl fileV (putS F n b).1,.int .i64 (putS F n b).2])
noncomputable def putF_lib:List (Nat × Spec):=[(89,cfiles_S),(32,word_S),(125,placeF_S),(126,cloneB_S)]
noncomputable def putF_fns:List (Nat × FnI):=[(127,{ fn:=Tryz.f127,spec:=some insF_P })]
noncomputable def putF_prims:List (Nat × PSpec):=[(90,copyO_P)]
theorem putF_E:EnvOK ⟨Tryz.prog,tys,putF_lib,putF_fns,putF_prims,[]⟩:=env_ok mixed0 tys0 (.cons cfiles_ca cfiles_ok (.cons word_ca word_ok (.cons placeF_ca placeF_ok (.cons cloneB_ca cloneB_ok .nil)))) (.told insF_ca rfl insF_prim .nil) (.cons copyO_prim .nil) rfl
theorem putF_ok:Pure Tryz.prog 50 putF_S:=by
 refine pure_by putF_E 6 (fi:={fn:=Tryz.f50,hooks:=[],draws:=[]}) ⟨Tryz.func50,by kernel_rfl,by kernel_rfl⟩ ?_
 rintro _ K ⟨F,n,b,rfl,hK⟩
 replace hK:∀ r,r=.tup [.sl fileV (putS F n b).1,.int .i64 (putS F n b).2]→K r:=fun r h=>h ▸ hK
 refine ⟨F,rfl,?_⟩
 repeat' first|(refine fun (b:Bool) hb=>?_;cases b<;>first|exact absurd hb (by decide)|exact nfl hb|exact nfr hb|skip)|fail
 rotate_left
 ·have h0:checkFiles F≠0:=by simpa using ‹(!decide (checkFiles F=0))=true›
  refine ⟨FileS,fileV,?_⟩
  refine hK _ ?_
  unfold putS
  rw [if_pos h0]
 have h0:checkFiles F=0:=by simpa using ‹(!decide (checkFiles F=0))=false›
 obtain ⟨h12,hall⟩:=checkFiles_ok h0
 conv=>whnf
 refine ⟨n,rfl,?_⟩
 repeat' first|(refine fun (b:Bool) hb=>?_;cases b<;>first|exact absurd hb (by decide)|exact nfl hb|exact nfr hb|skip)|(refine fun (hl:_≤MAXL)=>?_)|fail
 rotate_left
 ·have h1:isWord n=true:=by simpa using ‹(!isWord n)=false›
  have h2:4000<b.length:=by
   have h:=of_decide_eq_true (by assumption:decide (4000<(b.length:Int))=true)
   omega
  conv=>whnf
  skip
  refine ⟨FileS,fileV,?_⟩
  refine hK _ ?_
  unfold putS
  rw [if_neg (by rw [h0];decide),if_neg (by rw [h1];decide),if_pos h2]
 ·have h1:isWord n=false:=by simpa using ‹(!isWord n)=true›
  conv=>whnf
  skip
  refine ⟨FileS,fileV,?_⟩
  refine hK _ ?_
  unfold putS
  rw [if_neg (by rw [h0];decide),if_pos h1]
 have h1:isWord n=true:=by simpa using ‹(!isWord n)=false›
 have h2:¬ 4000<b.length:=by
  have h:=of_decide_eq_false (by assumption:decide (4000<(b.length:Int))=false)
  omega
 conv=>whnf
 skip
 refine ⟨F,n,rfl,?_⟩
 repeat' first|(refine fun (b:Bool) hb=>?_;cases b<;>first|exact absurd hb (by decide)|exact nfl hb|exact nfr hb|skip)|(refine fun (hl:_≤MAXL)=>?_)|fail
 ·have h3:isAt F n=true:=by simpa using ‹(!isAt F n)=false›
  obtain ⟨hp,hn⟩:=isAt_lt h3
  have hpm:placeI F n<(F.map fileV).length:=by rw [List.length_map];exact hp
  conv=>whnf
  skip
  conv=>whnf
  skip
  refine ⟨F,rfl,rfl,⟨by omega,fun f hf=>by have:=(hall f hf).2;omega⟩,?_⟩
  conv=>whnf
  skip
  refine ⟨b,rfl,by omega,?_⟩
  conv=>whnf
  repeat' first|(refine fun (b:Bool) hb=>?_;cases b<;>first|exact absurd hb (by decide)|exact nfl hb|exact nfr hb|skip)|refine ⟨rfl,?_⟩|fail
  ·exact absurd ((‹isAt F n=false›:isAt F n=false).symm.trans h3) (by decide)
  refine ⟨_,rfl,hpm,?_⟩
  conv=>whnf
  skip
  refine ⟨hpm,?_⟩
  conv=>whnf
  skip
  refine ⟨FileS,fileV,F.set (placeI F n) ⟨n,b⟩,by rw [List.map_set];exact LeL.refl _,?_⟩
  refine hK _ ?_
  unfold putS putGo
  rw [if_neg (by rw [h0];decide),if_neg (by rw [h1];decide),if_neg h2,if_neg (fun h=>by rw [h.1] at h3;cases h3),if_pos h3]
 ·have h3:isAt F n=false:=by simpa using ‹(!isAt F n)=true›
  conv=>whnf
  skip
  conv=>whnf
  skip
  refine ⟨F,rfl,rfl,⟨by omega,fun f hf=>by have:=(hall f hf).2;omega⟩,?_⟩
  conv=>whnf
  skip
  refine ⟨b,rfl,by omega,?_⟩
  conv=>whnf
  repeat' first|(refine fun (b:Bool) hb=>?_;cases b<;>first|exact absurd hb (by decide)|exact nfl hb|exact nfr hb|skip)|refine ⟨rfl,?_⟩|fail
  rotate_left
  ·exact absurd ((‹isAt F n=true›:isAt F n=true).symm.trans h3) (by decide)
  conv=>whnf
  skip
  refine ⟨F.map fileV,.agg [.str n,.sl byteV b],placeI F n,0,2,rfl,by decide,rfl,rfl,by rw [List.length_map];exact place_le F n,by rw [List.length_map];omega,?_⟩
  conv=>whnf
  skip
  refine ⟨FileS,fileV,F.take (placeI F n)++⟨n,b⟩::F.drop (placeI F n),by rw [List.map_append,List.map_cons,List.map_take,List.map_drop];exact LeL.refl _,?_⟩
  refine hK _ ?_
  have h4:¬ F.length=12:=by
   have h:=of_decide_eq_false (by assumption:decide ((F.length:Int)=12)=false)
   omega
  unfold putS putGo
  rw [if_neg (by rw [h0];decide),if_neg (by rw [h1];decide),if_neg h2,if_neg (fun h=>h4 h.2),if_neg (by rw [h3];decide)]
 ·have h3:isAt F n=false:=by simpa using ‹(!isAt F n)=true›
  have h4:F.length=12:=by
   have h:=of_decide_eq_true (by assumption:decide ((F.length:Int)=12)=true)
   omega
  conv=>whnf
  skip
  refine ⟨FileS,fileV,?_⟩
  refine hK _ ?_
  unfold putS
  rw [if_neg (by rw [h0];decide),if_neg (by rw [h1];decide),if_neg h2,if_pos ⟨h3,h4⟩]
end Gv
namespace Gv
variable [Glob] [Laid] [Nums] [Errs]
theorem dRun_ca:callable Tryz.prog 15=true:=by kernel_rfl
def dRun_S:Spec:=fun args K=>∃ (F:List FileS) (s:List LineS) (wd rm:Int) (ps:List Int),args=[.sl fileV F,.sl lineV s,.int .i64 wd,.int .i64 rm,.sl intV ps]∧K (.tup [.sl fileV (runL (fun F x=>driveS F x wd rm ps.length) F s).1,.int .i64 (runL (fun F x=>driveS F x wd rm ps.length) F s).2])
noncomputable def dRun_lib:List (Nat × Spec):=[(89,cfiles_S),(43,scheckS_S),(90,copyF_S),(14,dLine_S),(50,putF_S)]
noncomputable def dRun_fns:List (Nat × FnI):=[]
noncomputable def dRun_prims:List (Nat × PSpec):=[]
theorem dRun_E:EnvOK ⟨Tryz.prog,tys,dRun_lib,dRun_fns,dRun_prims,[]⟩:=env_ok mixed0 tys0 (.cons cfiles_ca cfiles_ok (.cons scheckS_ca scheckS_ok (.cons copyF_ca copyF_ok (.cons dLine_ca dLine_ok (.cons putF_ca putF_ok .nil))))) .nil .nil rfl
theorem dRun_ok:Pure Tryz.prog 15 dRun_S:=by
 refine pure_by dRun_E 6 (fi:={fn:=Tryz.f15,hooks:=[],draws:=[]}) ⟨Tryz.func15,by kernel_rfl,by kernel_rfl⟩ ?_
 rintro _ K ⟨F,s,wd,rm,ps,rfl,hK⟩
 replace hK:∀ r,r=.tup [.sl fileV (runL (fun F x=>driveS F x wd rm ps.length) F s).1,.int .i64 (runL (fun F x=>driveS F x wd rm ps.length) F s).2]→K r:=fun r h=>h ▸ hK
 obtain ⟨L,hL⟩:∃ L:List FileS→LineS→Bs × Int,L=fun F x=>driveS F x wd rm ps.length:=⟨_,rfl⟩
 rw [←hL] at hK
 refine ⟨F,rfl,?_⟩
 repeat' first|(refine fun (b:Bool) hb=>?_;cases b<;>first|exact absurd hb (by decide)|exact nfl hb|exact nfr hb|skip)|fail
 rotate_left
 ·have h0:checkFiles F≠0:=by simpa using ‹(!decide (checkFiles F=0))=true›
  refine ⟨FileS,fileV,?_⟩
  refine hK _ ?_
  unfold runL
  rw [if_pos h0]
 have h0:checkFiles F=0:=by simpa using ‹(!decide (checkFiles F=0))=false›
 obtain ⟨h12,hall⟩:=checkFiles_ok h0
 conv=>whnf
 refine ⟨s,rfl,?_⟩
 repeat' first|(refine fun (b:Bool) hb=>?_;cases b<;>first|exact absurd hb (by decide)|exact nfl hb|exact nfr hb|skip)|fail
 rotate_left
 ·have h1:checkS s≠0:=by simpa using ‹(!decide (checkS s=0))=true›
  refine ⟨FileS,fileV,?_⟩
  refine hK _ ?_
  unfold runL
  rw [if_neg (by rw [h0];decide),if_pos h1]
 have h1:checkS s=0:=by simpa using ‹(!decide (checkS s=0))=false›
 have hone:∀ r:List FileS × Int,runGoL L F s=r→K (.tup [.sl fileV r.1,.int .i64 r.2]):=fun r h=>hK _ (by unfold runL;rw [if_neg (by rw [h0];decide),if_neg (by rw [h1];decide),h])
 conv=>whnf
 skip
 refine ⟨F,rfl,⟨by omega,fun f hf=>by have:=(hall f hf).2;omega⟩,?_⟩
 conv=>whnf
 repeat' first|(refine fun (hl:_≤MAXL)=>?_)|fail
 conv=>whnf
 refine loop_live [1,2,3,4,31] (σ:=Nat × List FileS) (fun t=>[(32,.int .i64 t.1),(0,.sl fileV t.2)]) (fun _=>[]) (fun t=>t.1≤s.length∧runGoL L t.2 (s.drop t.1)=runGoL L F s) (fun t=>s.length-t.1) (0,F) ?_
 conv=>whnf
 refine ⟨(by (refine wk_auto ?_;refine Sel4.mk rfl rfl ?_ ?_<;>(repeat' first|exact True.intro|exact rfl|exact .inl rfl|exact .inr rfl|refine And.intro ?_ ?_|fail))),⟨Nat.zero_le _,rfl⟩,fun t ht=>?_⟩
 obtain ⟨i,G⟩:=t
 obtain ⟨hi,hg⟩:=ht
 dsimp only at hi hg
 repeat' first|(refine fun (b:Bool) hb=>?_;cases b<;>first|exact absurd hb (by decide)|exact nfl hb|exact nfr hb|skip)|refine ⟨_,rfl,?_,rfl,?_⟩|fail
 ·have hge:¬ (i:Int)<(s.length:Int):=of_decide_eq_false (by assumption)
  have e:s.drop i=[]:=List.drop_eq_nil_of_le (by omega)
  rw [e] at hg
  conv=>whnf
  skip
  exact hone _ hg.symm
 ·have h:=of_decide_eq_true (by assumption:decide ((i:Int)<(s.length:Int))=true)
  show i<s.length
  omega
 have hlt:i<s.length:=by
  have h:=of_decide_eq_true (by assumption:decide ((i:Int)<(s.length:Int))=true)
  omega
 rw [List.drop_eq_getElem_cons hlt,runGoL] at hg
 conv=>whnf
 skip
 refine ⟨G,s[i].frm,s[i].cmds,s[i].to,wd,rm,ps,rfl,?_⟩
 rw [show (⟨s[i].frm,s[i].cmds,s[i].to⟩:LineS)=s[i] from rfl,show driveS G s[i] wd rm ps.length=L G s[i] by rw [hL]]
 repeat' first|(refine fun (b:Bool) hb=>?_;cases b<;>first|exact absurd hb (by decide)|exact nfl hb|exact nfr hb|skip)|fail
 rotate_left
 ·have h2:(L G s[i]).2≠0:=by simpa using ‹(!decide ((L G s[i]).2=0))=true›
  rw [if_pos h2] at hg
  conv=>whnf
  skip
  refine ⟨FileS,fileV,?_⟩
  exact hone _ hg.symm
 have h2:(L G s[i]).2=0:=by simpa using ‹(!decide ((L G s[i]).2=0))=false›
 rw [if_neg (by rw [h2];decide)] at hg
 conv=>whnf
 skip
 refine ⟨G,s[i].to,(L G s[i]).1,rfl,?_⟩
 repeat' first|(refine fun (b:Bool) hb=>?_;cases b<;>first|exact absurd hb (by decide)|exact nfl hb|exact nfr hb|skip)|refine And.intro (a:=I64 _) ?_ ?_|fail
 ·have hm:s.length≤MAXL:=by assumption
  unfold I64;unfold MAXL at hm
  dsimp only
  omega
 ·have h3:(putS G s[i].to (L G s[i]).1).2=0:=by simpa using ‹(!decide ((putS G s[i].to (L G s[i]).1).2=0))=false›
  rw [if_neg (by rw [h3];decide)] at hg
  conv=>whnf
  skip
  refine ⟨(i+1,(putS G s[i].to (L G s[i]).1).1),(by (refine wk_auto ?_;refine Sel4.mk rfl rfl ?_ ?_<;>(repeat' first|exact True.intro|exact rfl|exact .inl rfl|exact .inr rfl|refine And.intro ?_ ?_|fail))),⟨hlt,hg⟩,by show s.length-(i+1)<s.length-i;omega⟩
 ·have h3:(putS G s[i].to (L G s[i]).1).2≠0:=by simpa using ‹(!decide ((putS G s[i].to (L G s[i]).1).2=0))=true›
  rw [if_pos h3] at hg
  conv=>whnf
  skip
  refine ⟨FileS,fileV,?_⟩
  exact hone _ hg.symm
end Gv
namespace Gv
variable [Glob] [Laid] [Nums] [Errs]
def drA:FileS:=⟨[97],[98,32,120,10,97,32,121,10,99,32,122]⟩
def drC:FileS:=⟨[99],[97,10,98,10,99,10]⟩
def drD:FileS:=⟨[100],[51,10]⟩
def drX:LineS:=⟨[[97],[97]],[⟨4,[],1⟩,⟨6,[],0⟩,⟨7,[],0⟩],[99]⟩
def drY:LineS:=⟨[[99]],[⟨8,[],0⟩],[100]⟩
theorem dr1:gatherS [drA] drX.frm=([98,32,120,10,97,32,121,10,99,32,122,10,98,32,120,10,97,32,121,10,99,32,122,10],0):=by decide +kernel
theorem dr2:gatherS [drA,drC] drY.frm=([97,10,98,10,99,10],0):=by decide +kernel
theorem dr3:doLines drX.cmds (linesOf (gatherS [drA] drX.frm).1)=[[97],[98],[99]]:=by
 rw [dr1]
 show linesC ⟨7,[],0⟩ (linesC ⟨6,[],0⟩ (linesC ⟨4,[],1⟩ (linesOf [98,32,120,10,97,32,121,10,99,32,122,10,98,32,120,10,97,32,121,10,99,32,122,10])))=_
 rw [show linesC ⟨4,[],1⟩ (linesOf [98,32,120,10,97,32,121,10,99,32,122,10,98,32,120,10,97,32,121,10,99,32,122,10])=[[98],[97],[99],[98],[97],[99]] by decide +kernel]
 rw [show linesC ⟨6,[],0⟩ [[98],[97],[99],[98],[97],[99]]=sortB [[98],[97],[99],[98],[97],[99]] from rfl,sortB_of (l':=[[97],[97],[98],[98],[99],[99]]) (by decide) (by decide)]
 decide +kernel
theorem dr4:doLines drY.cmds (linesOf (gatherS [drA,drC] drY.frm).1)=[[51]]:=by
 rw [dr2]
 decide +kernel
theorem dr5:putS [drA] [99] [97,10,98,10,99,10]=([drA,drC],0):=by decide +kernel
theorem dr6:putS [drA,drC] [100] [51,10]=([drA,drC,drD],0):=by decide +kernel
theorem dr7:checkFiles [drA]=0:=by decide +kernel
theorem dr8:checkS [drX,drY]=0∧checkLine drX=0∧checkLine drY=0:=by decide +kernel
theorem dr_shell:runL shellLine [drA] [drX,drY]=([drA,drC,drD],0):=by
 have e1:shellLine [drA] drX=([97,10,98,10,99,10],0):=by
  rw [shell_line dr8.2.1 (by rw [dr1]),dr3];rfl
 have e2:shellLine [drA,drC] drY=([51,10],0):=by
  rw [shell_line dr8.2.2 (by rw [dr2]),dr4];rfl
 unfold runL
 rw [if_neg (by rw [dr7];decide),if_neg (by rw [dr8.1];decide),runGoL,e1,if_neg (by decide)]
 show (if (putS [drA] [99] [97,10,98,10,99,10]).2≠0 then _ else runGoL shellLine (putS [drA] [99] [97,10,98,10,99,10]).1 [drY])=_
 rw [dr5,if_neg (by decide),runGoL,e2,if_neg (by decide)]
 show (if (putS [drA,drC] [100] [51,10]).2≠0 then _ else runGoL shellLine (putS [drA,drC] [100] [51,10]).1 [])=_
 rw [dr6]
 rfl
theorem dr_run:runL (fun F x=>driveS F x 3 1 5) [drA] [drX,drY]=([drA,drC,drD],0):=by
 rw [runL_same (L':=shellLine) (fun F x=>drive_shell (by decide) (by decide) (by decide)),dr_shell]
end Gv
namespace Gv
variable [Glob] [Laid] [Nums] [Errs]
theorem drivenF_ca:callable Tryz.prog 16=true:=by kernel_rfl
def drivenF_S:Spec:=fun args K=>args=[]∧K (.bool true)
noncomputable def drivenF_lib:List (Nat × Spec):=[(15,dRun_S)]
noncomputable def drivenF_fns:List (Nat × FnI):=[]
noncomputable def drivenF_prims:List (Nat × PSpec):=[]
theorem drivenF_E:EnvOK ⟨Tryz.prog,tys,drivenF_lib,drivenF_fns,drivenF_prims,[]⟩:=env_ok mixed0 tys0 (.cons dRun_ca dRun_ok .nil) .nil .nil rfl
set_option maxRecDepth 10000 in
theorem drivenF_ok:Pure Tryz.prog 16 drivenF_S:=by
 refine pure_by drivenF_E 6 (fi:={fn:=Tryz.f16,hooks:=[],draws:=[]}) ⟨Tryz.func16,by kernel_rfl,by kernel_rfl⟩ ?_
 rintro _ K ⟨rfl,hK⟩
 replace hK:∀ r,r=.bool true→K r:=fun r h=>h ▸ hK
 skip
 conv=>whnf
 refine ⟨[98,32,120,10,97,32,121,10,99,32,122],rfl,by decide,?_⟩
 conv=>whnf
 skip
 first
  | refine ⟨Bs,strV,[[97],[97]],LeL.refl _,?_⟩
  | refine ⟨Bs,strV,[[99]],LeL.refl _,?_⟩
  | refine ⟨Cmd,cmdV,[⟨4,[],1⟩,⟨6,[],0⟩,⟨7,[],0⟩],LeL.refl _,?_⟩
  | refine ⟨Cmd,cmdV,[⟨8,[],0⟩],LeL.refl _,?_⟩
  | refine ⟨FileS,fileV,[drA],LeL.refl _,?_⟩
  | refine ⟨LineS,lineV,[drX,drY],LeL.refl _,?_⟩
  | refine ⟨Int,intV,[0,5,2,2,2],LeL.refl _,?_⟩
 skip
 first
  | refine ⟨Bs,strV,[[97],[97]],LeL.refl _,?_⟩
  | refine ⟨Bs,strV,[[99]],LeL.refl _,?_⟩
  | refine ⟨Cmd,cmdV,[⟨4,[],1⟩,⟨6,[],0⟩,⟨7,[],0⟩],LeL.refl _,?_⟩
  | refine ⟨Cmd,cmdV,[⟨8,[],0⟩],LeL.refl _,?_⟩
  | refine ⟨FileS,fileV,[drA],LeL.refl _,?_⟩
  | refine ⟨LineS,lineV,[drX,drY],LeL.refl _,?_⟩
  | refine ⟨Int,intV,[0,5,2,2,2],LeL.refl _,?_⟩
 skip
 first
  | refine ⟨Bs,strV,[[97],[97]],LeL.refl _,?_⟩
  | refine ⟨Bs,strV,[[99]],LeL.refl _,?_⟩
  | refine ⟨Cmd,cmdV,[⟨4,[],1⟩,⟨6,[],0⟩,⟨7,[],0⟩],LeL.refl _,?_⟩
  | refine ⟨Cmd,cmdV,[⟨8,[],0⟩],LeL.refl _,?_⟩
  | refine ⟨FileS,fileV,[drA],LeL.refl _,?_⟩
  | refine ⟨LineS,lineV,[drX,drY],LeL.refl _,?_⟩
  | refine ⟨Int,intV,[0,5,2,2,2],LeL.refl _,?_⟩
 skip
 first
  | refine ⟨Bs,strV,[[97],[97]],LeL.refl _,?_⟩
  | refine ⟨Bs,strV,[[99]],LeL.refl _,?_⟩
  | refine ⟨Cmd,cmdV,[⟨4,[],1⟩,⟨6,[],0⟩,⟨7,[],0⟩],LeL.refl _,?_⟩
  | refine ⟨Cmd,cmdV,[⟨8,[],0⟩],LeL.refl _,?_⟩
  | refine ⟨FileS,fileV,[drA],LeL.refl _,?_⟩
  | refine ⟨LineS,lineV,[drX,drY],LeL.refl _,?_⟩
  | refine ⟨Int,intV,[0,5,2,2,2],LeL.refl _,?_⟩
 skip
 first
  | refine ⟨Bs,strV,[[97],[97]],LeL.refl _,?_⟩
  | refine ⟨Bs,strV,[[99]],LeL.refl _,?_⟩
  | refine ⟨Cmd,cmdV,[⟨4,[],1⟩,⟨6,[],0⟩,⟨7,[],0⟩],LeL.refl _,?_⟩
  | refine ⟨Cmd,cmdV,[⟨8,[],0⟩],LeL.refl _,?_⟩
  | refine ⟨FileS,fileV,[drA],LeL.refl _,?_⟩
  | refine ⟨LineS,lineV,[drX,drY],LeL.refl _,?_⟩
  | refine ⟨Int,intV,[0,5,2,2,2],LeL.refl _,?_⟩
 skip
 first
  | refine ⟨Bs,strV,[[97],[97]],LeL.refl _,?_⟩
  | refine ⟨Bs,strV,[[99]],LeL.refl _,?_⟩
  | refine ⟨Cmd,cmdV,[⟨4,[],1⟩,⟨6,[],0⟩,⟨7,[],0⟩],LeL.refl _,?_⟩
  | refine ⟨Cmd,cmdV,[⟨8,[],0⟩],LeL.refl _,?_⟩
  | refine ⟨FileS,fileV,[drA],LeL.refl _,?_⟩
  | refine ⟨LineS,lineV,[drX,drY],LeL.refl _,?_⟩
  | refine ⟨Int,intV,[0,5,2,2,2],LeL.refl _,?_⟩
 skip
 first
  | refine ⟨Bs,strV,[[97],[97]],LeL.refl _,?_⟩
  | refine ⟨Bs,strV,[[99]],LeL.refl _,?_⟩
  | refine ⟨Cmd,cmdV,[⟨4,[],1⟩,⟨6,[],0⟩,⟨7,[],0⟩],LeL.refl _,?_⟩
  | refine ⟨Cmd,cmdV,[⟨8,[],0⟩],LeL.refl _,?_⟩
  | refine ⟨FileS,fileV,[drA],LeL.refl _,?_⟩
  | refine ⟨LineS,lineV,[drX,drY],LeL.refl _,?_⟩
  | refine ⟨Int,intV,[0,5,2,2,2],LeL.refl _,?_⟩
 skip
 refine ⟨[drA],[drX,drY],3,1,[0,5,2,2,2],rfl,?_⟩
 rw [show ([0,5,2,2,2]:List Int).length=5 from rfl,dr_run]
 repeat' first|(refine fun (b:Bool) hb=>?_;cases b<;>first|exact absurd hb (by decide)|exact nfl hb|exact nfr hb|skip)|(refine fun (hl:_≤MAXL)=>?_)|refine ⟨_,rfl,?_,rfl,?_⟩|refine ⟨_,(fun _=>rfl),rfl,?_⟩|fail
 ·show 1<3;decide
 ·show 2<3;decide
 conv=>whnf
 skip
 conv=>whnf
 exact hK _ rfl
end Gv
namespace Gv
variable [Glob] [Laid]
theorem dropWhile_le {α:Type} (p : α→Bool):∀ l:List α,(l.dropWhile p).length≤l.length
 | []=>Nat.le_refl _
 | x::l=>by
  unfold List.dropWhile
  split
  ·have:=dropWhile_le p l
   simp;omega
  ·exact Nat.le_refl _
theorem trimS_le (s cs:Bs):(Lib.trimS s cs).length≤s.length:=by
 unfold Lib.trimS Lib.trimLeftS Lib.trimRightS
 refine Nat.le_trans (dropWhile_le _ _) ?_
 rw [List.length_reverse]
 refine Nat.le_trans (dropWhile_le _ _) ?_
 rw [List.length_reverse]
 exact Nat.le_refl _
theorem trimS_ca:callable Tryz.prog 102=true:=by kernel_rfl
def trimS_S:Spec:=fun args K=>∃ (s cs:Bs),args=[.str s,.str cs]∧(cs.length<4294967281∧cs.all (fun b=>decide (b.toNat<128))=true)∧K (.str (Lib.trimS s cs))
theorem trimS_ok:Pure Tryz.prog 102 trimS_S:=by
 intro w m args us K hm hg hv hT
 obtain ⟨s,cs,rfl,⟨h1,h2⟩,hK⟩:=hT
 obtain ⟨a,b,rfl,ha,hb⟩:=args2 hv.1 hv.2
 obtain ⟨rfl,hs⟩:=vr_str ha
 obtain ⟨rfl,-⟩:=vr_str hb
 refine (Any.strings_Trim_laid Tryz.laysTrim (by kernel_rfl) (ba s) (ba cs) w (by rw [ba_size];exact hs) (by rw [ba_size];exact h1) (ascii_of_all h2)).mono fun e w' ⟨he,hw⟩=>?_
 exact ⟨_,_,he,Bel.of_below hw,hK,.str (Nat.le_trans (trimS_le s cs) hs)⟩
end Gv
namespace Gv
variable [Glob] [Laid]
def letters:Bs:=[97,98,99,100,101,102,103,104,105,106,107,108,109,110,111,112,113,114,115,116,117,118,119,120,121,122,48,49,50,51,52,53,54,55,56,57]
theorem letters_word (c:UInt8):letters.contains c=wordByte c:=by
 have h:∀ n:Fin 256,letters.contains (UInt8.ofNat n.1)=wordByte (UInt8.ofNat n.1):=by decide +kernel
 have:=h ⟨c.toNat,c.toNat_lt⟩
 simpa using this
theorem dropWhile_nil {α:Type} (p : α→Bool):∀ l:List α,l.dropWhile p=[]↔l.all p=true
 | []=>by simp
 | x::l=>by
  unfold List.dropWhile
  split
  ·rename_i h
   rw [dropWhile_nil p l]
   simp [h]
  ·rename_i h
   simp [h]
theorem dropWhile_head {α:Type} (p : α→Bool):∀ (l:List α) x r,l.dropWhile p=x::r→p x=false
 | [],x,r,h=>by simp at h
 | y::l,x,r,h=>by
  unfold List.dropWhile at h
  split at h
  ·exact dropWhile_head p l x r h
  ·rename_i hy
   cases h
   simpa using hy
theorem trim_nil (s cs:Bs):Lib.trimS s cs=[]↔s.all (fun c=>cs.contains c)=true:=by
 unfold Lib.trimS Lib.trimLeftS Lib.trimRightS
 have e:s.all (fun c=>cs.contains c)=s.reverse.all (fun c=>cs.contains c):=by simp
 rw [dropWhile_nil,e,←dropWhile_nil (fun c=>cs.contains c) s.reverse]
 cases hd:s.reverse.dropWhile (fun c=>cs.contains c) with
 | nil=>simp
 | cons x r =>
  have:=dropWhile_head _ _ _ _ hd
  simp at this
  simp [this]
theorem isWordR_ca:callable Tryz.prog 33=true:=by kernel_rfl
def isWordR_S:Spec:=fun args K=>∃ (s:Bs),args=[.str s]∧K (.bool (isWord s))
noncomputable def isWordR_lib:List (Nat × Spec):=[(102,trimS_S)]
noncomputable def isWordR_fns:List (Nat × FnI):=[]
noncomputable def isWordR_prims:List (Nat × PSpec):=[]
theorem isWordR_E:EnvOK ⟨Tryz.prog,tys,isWordR_lib,isWordR_fns,isWordR_prims,[]⟩:=env_ok mixed0 tys0 (.cons trimS_ca trimS_ok .nil) .nil .nil rfl
theorem isWordR_ok:Pure Tryz.prog 33 isWordR_S:=by
 refine pure_by isWordR_E 6 (fi:={fn:=Tryz.f33,hooks:=[],draws:=[]}) ⟨Tryz.func33,by kernel_rfl,by kernel_rfl⟩ ?_
 rintro _ K ⟨s,rfl,hK⟩
 replace hK:∀ r,r=.bool (isWord s)→K r:=fun r h=>h ▸ hK
 repeat' first|(refine fun (b:Bool) hb=>?_;cases b<;>first|exact absurd hb (by decide)|exact nfl hb|exact nfr hb|skip)|(refine fun (hl:_≤MAXL)=>?_)|fail
 ·refine hK _ ?_
  have:s=[]:=by
   have h:decide ((0:Int)<s.length)=false:=by assumption
   have:¬ (0:Int)<s.length:=by simpa using h
   exact List.length_eq_zero_iff.1 (by omega)
  subst this
  rfl
 ·refine hK _ ?_
  have h:decide ((s.length:Int)≤12)=false:=by assumption
  have:¬ (s.length:Int)≤12:=by simpa using h
  have h2:¬ s.length≤12:=by omega
  simp [isWord,h2]
 ·refine ⟨s,letters,rfl,⟨by decide,by decide⟩,?_⟩
  skip
  refine hK _ ?_
  have h:decide ((s.length:Int)≤12)=true:=by assumption
  have h1:(s.length:Int)≤12:=by simpa using h
  have h2:s.length≤12:=by omega
  have h:decide ((0:Int)<s.length)=true:=by assumption
  have h3:(0:Int)<s.length:=by simpa using h
  have h4:s≠[]:=fun e=>by subst e;simp at h3
  have e:s.all wordByte=s.all (fun c=>letters.contains c):=by
   congr 1
   funext c
   exact (letters_word c).symm
  have e2:=trim_nil s letters
  congr 1
  simp only [isWord,h2,h4,e,ne_eq,not_false_eq_true,decide_true,Bool.true_and]
  generalize s.all (fun c=>letters.contains c)=t at e2 ⊢
  cases t
  ·simpa using e2
  ·simpa using e2
end Gv
namespace Gv
variable [Glob] [Laid]
def usesTab:List (List Int × Bs):=[([1],[119]),([2],[119]),([3],[119]),([4],[110]),([5],[45]),([6],[45]),([7],[45]),([8],[45]),([9],[110]),([10],[110])]
theorem uses_cases (c:Cmd):(mget [] usesTab [c.kind]=[]∧(c.kind<1∨10<c.kind))∨(mget [] usesTab [c.kind]=[119]∧(1≤c.kind∧c.kind≤10)∧useWord c=true∧useN c=false)∨(mget [] usesTab [c.kind]=[110]∧(1≤c.kind∧c.kind≤10)∧useWord c=false∧useN c=true∧c.kind≠3)∨(mget [] usesTab [c.kind]=[45]∧(1≤c.kind∧c.kind≤10)∧useWord c=false∧useN c=false∧c.kind≠3):=by
 unfold useWord useN
 generalize c.kind=k
 by_cases h:1≤k∧k≤10
 ·have h2:k=1∨k=2∨k=3∨k=4∨k=5∨k=6∨k=7∨k=8∨k=9∨k=10:=by omega
  rcases h2 with rfl|rfl|rfl|rfl|rfl|rfl|rfl|rfl|rfl|rfl<;>decide
 ·left
  refine ⟨?_,by omega⟩
  have e:∀ j:Int,1≤j→j≤10→¬ [j]=[k]:=fun j h1 h2 e=>by
   simp only [List.cons.injEq,and_true] at e
   omega
  unfold usesTab
  simp only [mget,e 1 (by omega) (by omega),e 2 (by omega) (by omega),e 3 (by omega) (by omega),e 4 (by omega) (by omega),e 5 (by omega) (by omega),e 6 (by omega) (by omega),e 7 (by omega) (by omega),e 8 (by omega) (by omega),e 9 (by omega) (by omega),e 10 (by omega) (by omega),if_false]
theorem ccmdR_ca:callable Tryz.prog 29=true:=by kernel_rfl
def ccmdR_S:Spec:=fun args K=>∃ (c:Cmd),args=[cmdV c]∧K (.int .i64 (checkCmd c))
noncomputable def ccmdR_lib:List (Nat × Spec):=[(33,isWordR_S)]
noncomputable def ccmdR_fns:List (Nat × FnI):=[]
noncomputable def ccmdR_prims:List (Nat × PSpec):=[]
theorem ccmdR_E:EnvOK ⟨Tryz.prog,tys,ccmdR_lib,ccmdR_fns,ccmdR_prims,[]⟩:=env_ok mixed0 tys0 (.cons isWordR_ca isWordR_ok .nil) .nil .nil rfl
theorem ccmdR_ok:Pure Tryz.prog 29 ccmdR_S:=by
 refine pure_by ccmdR_E 6 (fi:={fn:=Tryz.f29,hooks:=[2],draws:=[]}) ⟨Tryz.func29,by kernel_rfl,by kernel_rfl⟩ ?_
 rintro _ K ⟨c,rfl,hK⟩
 replace hK:∀ r,r=.int .i64 (checkCmd c)→K r:=fun r h=>h ▸ hK
 have hu:=uses_cases c
 skip
 conv=>whnf
 refine join_live [1] (σ:=Bs) (fun u=>[(3,.str u)]) (fun _=>[.box [.int .i64 c.kind,.str c.word,.int .i64 c.n]]) (fun u=>u=mget [] usesTab [c.kind]) ?_
 conv=>whnf
 refine ⟨?_,fun u hu1=>?_⟩
 ·repeat' first|refine ⟨_,rfl,?_,rfl,?_⟩|refine ⟨Bs,strV,?_⟩|fail
  all_goals try rfl
  refine ⟨[],rfl,?_⟩
  skip
  exact ⟨_,(by (refine wk_auto ?_;refine Sel4.mk rfl rfl ?_ ?_<;>(repeat' first|exact True.intro|exact rfl|exact .inl rfl|exact .inr rfl|refine And.intro ?_ ?_|fail))),rfl⟩
 rw [←hu1] at hu
 clear hu1
 unfold checkCmd at hK
 rcases hu with ⟨rfl,h1⟩|⟨rfl,h1,h2,h3⟩|⟨rfl,h1,h2,h3,h4⟩|⟨rfl,h1,h2,h3,h4⟩
 ·repeat' first|(refine fun (b:Bool) hb=>?_;cases b<;>first|exact absurd hb (by decide)|exact nfl hb|exact nfr hb|skip)|fail
  refine hK _ ?_
  rw [if_pos h1]
 all_goals
  have h1':¬ (c.kind<1∨10<c.kind):=by omega
 ·simp only [h1',h2,h3,if_false] at hK
  repeat' first|(refine fun (b:Bool) hb=>?_;cases b<;>first|exact absurd hb (by decide)|exact nfl hb|exact nfr hb|skip)|fail
  ·refine ⟨c.word,rfl,?_⟩
   repeat' first|(refine fun (b:Bool) hb=>?_;cases b<;>first|exact absurd hb (by decide)|exact nfl hb|exact nfr hb|skip)|(refine fun (hl:_≤MAXL)=>?_)|fail
   all_goals (refine hK _ ?_;simp_all;try omega)
  ·refine hK _ ?_
   simp_all
 ·simp only [h1',h2,h3,if_false] at hK
  repeat' first|(refine fun (b:Bool) hb=>?_;cases b<;>first|exact absurd hb (by decide)|exact nfl hb|exact nfr hb|skip)|fail
  all_goals (refine hK _ ?_;simp_all;try omega)
 ·simp only [h1',h2,h3,if_false] at hK
  repeat' first|(refine fun (b:Bool) hb=>?_;cases b<;>first|exact absurd hb (by decide)|exact nfl hb|exact nfr hb|skip)|fail
  all_goals (refine hK _ ?_;simp_all;done)
end Gv
namespace Gv
variable [Glob] [Laid]
theorem clineR_ca:callable Tryz.prog 19=true:=by kernel_rfl
def clineR_S:Spec:=fun args K=>∃ (l:LineS),args=[lineV l]∧K (.int .i64 (checkLine l))
noncomputable def clineR_lib:List (Nat × Spec):=[(33,isWordR_S),(29,ccmdR_S)]
noncomputable def clineR_fns:List (Nat × FnI):=[]
noncomputable def clineR_prims:List (Nat × PSpec):=[]
theorem clineR_E:EnvOK ⟨Tryz.prog,tys,clineR_lib,clineR_fns,clineR_prims,[]⟩:=env_ok mixed0 tys0 (.cons isWordR_ca isWordR_ok (.cons ccmdR_ca ccmdR_ok .nil)) .nil .nil rfl
theorem clineR_ok:Pure Tryz.prog 19 clineR_S:=by
 refine pure_by clineR_E 6 (fi:={fn:=Tryz.f19,hooks:=[],draws:=[]}) ⟨Tryz.func19,by kernel_rfl,by kernel_rfl⟩ ?_
 rintro _ K ⟨l,rfl,hK⟩
 replace hK:∀ r,r=.int .i64 (checkLine l)→K r:=fun r h=>h ▸ hK
 obtain ⟨f,c,t⟩:=l
 unfold checkLine at hK
 dsimp only at hK
 repeat' first|(refine fun (b:Bool) hb=>?_;cases b<;>first|exact absurd hb (by decide)|exact nfl hb|exact nfr hb|skip)|(refine fun (hl:_≤MAXL)=>?_)|fail
 rotate_left
 ·refine hK _ ?_
  rw [if_pos (by grind)]
 ·refine hK _ ?_
  rw [if_pos (by grind)]
 ·refine hK _ ?_
  rw [if_pos (by grind)]
 have h1:¬ (f.length=0∨4<f.length∨6<c.length):=by grind
 rw [if_neg h1] at hK
 conv=>whnf
 refine loop_live [1,25,26] (σ:=Nat) (fun i=>[(27,.int .i64 i)]) (fun _=>[.box [.sl strV f,.sl cmdV c,.str t]]) (fun i=>i≤f.length∧(f.take i).all isWord=true) (fun i=>f.length-i) 0 ?_
 conv=>whnf
 refine ⟨(by (refine wk_auto ?_;refine Sel4.mk rfl rfl ?_ ?_<;>(repeat' first|exact True.intro|exact rfl|exact .inl rfl|exact .inr rfl|refine And.intro ?_ ?_|fail))),⟨Nat.zero_le _,rfl⟩,fun i hi=>?_⟩
 obtain ⟨hi,hI⟩:=hi
 repeat' first|(refine fun (b:Bool) hb=>?_;cases b<;>first|exact absurd hb (by decide)|exact nfl hb|exact nfr hb|skip)|refine ⟨_,rfl,?_,rfl,?_⟩|fail
 ·have e:f.take i=f:=List.take_of_length_le (by grind)
  rw [e] at hI
  refine ⟨t,rfl,?_⟩
  rw [List.all_append,hI] at hK
  simp only [List.all_cons,List.all_nil,Bool.and_true,Bool.true_and] at hK
  generalize isWord t=wt at hK ⊢
  repeat' first|(refine fun (b:Bool) hb=>?_;cases b<;>first|exact absurd hb (by decide)|exact nfl hb|exact nfr hb|skip)|(refine fun (hl:_≤MAXL)=>?_)|fail
  rotate_left
  ·refine hK _ ?_
   rw [if_pos (by grind)]
  have hwt:¬ wt=false:=by grind
  rw [if_neg hwt] at hK
  conv=>whnf
  refine loop_live [40,41] (σ:=Nat) (fun i=>[(42,.int .i64 i)]) (fun _=>[.box [.sl strV f,.sl cmdV c,.str t]]) (fun i=>i≤c.length∧firstBad (c.drop i)=firstBad c) (fun i=>c.length-i) 0 ?_
  conv=>whnf
  refine ⟨(by (refine wk_auto ?_;refine Sel4.mk rfl rfl ?_ ?_<;>(repeat' first|exact True.intro|exact rfl|exact .inl rfl|exact .inr rfl|refine And.intro ?_ ?_|fail))),⟨Nat.zero_le _,rfl⟩,fun i hi=>?_⟩
  obtain ⟨hi,hJ⟩:=hi
  repeat' first|(refine fun (b:Bool) hb=>?_;cases b<;>first|exact absurd hb (by decide)|exact nfl hb|exact nfr hb|skip)|refine ⟨_,rfl,?_,rfl,?_⟩|fail
  ·refine hK _ ?_
   have e:c.drop i=[]:=List.drop_eq_nil_of_le (by grind)
   rw [e] at hJ
   rw [←hJ]
   rfl
  ·grind
  ·have hi2:i<c.length:=by grind
   have hd:c.drop i=c[i]::c.drop (i+1):=List.drop_eq_getElem_cons hi2
   rw [hd] at hJ
   refine ⟨c[i],rfl,?_⟩
   have hb0:firstBad (c[i]::c.drop (i+1))=if checkCmd c[i]=0 then firstBad (c.drop (i+1)) else checkCmd c[i]:=rfl
   generalize checkCmd c[i]=e at hb0 ⊢
   repeat' first|(refine fun (b:Bool) hb=>?_;cases b<;>first|exact absurd hb (by decide)|exact nfl hb|exact nfr hb|skip)|refine And.intro (a:=I64 _) ?_ ?_|fail
   ·(first|omega|(unfold I64;omega)|(simp only [List.length_append,List.length_map,List.length_cons,List.length_nil,Nat.mul_one,Int.ofNat_eq_natCast] at *;omega)|(dsimp only at *;omega)|(unfold I64;dsimp only at *;omega)|(unfold I64;grind)|grind)
   ·refine ⟨i+1,(by (refine wk_auto ?_;refine Sel4.mk rfl rfl ?_ ?_<;>(repeat' first|exact True.intro|exact rfl|exact .inl rfl|exact .inr rfl|refine And.intro ?_ ?_|fail))),⟨by omega,?_⟩,by omega⟩
    rw [←hJ,hb0,if_pos (by grind)]
   ·refine hK _ ?_
    have he:¬ e=0:=by grind
    rw [←hJ,hb0]
    simp [he]
 ·grind
 have hi2:i<f.length:=by grind
 refine ⟨f[i],rfl,?_⟩
 have hts:f.take (i+1)=f.take i++[f[i]]:=List.take_succ_eq_append_getElem hi2
 repeat' first|(refine fun (b:Bool) hb=>?_;cases b<;>first|exact absurd hb (by decide)|exact nfl hb|exact nfr hb|skip)|refine And.intro (a:=I64 _) ?_ ?_|fail
 ·(first|omega|(unfold I64;omega)|(simp only [List.length_append,List.length_map,List.length_cons,List.length_nil,Nat.mul_one,Int.ofNat_eq_natCast] at *;omega)|(dsimp only at *;omega)|(unfold I64;dsimp only at *;omega)|(unfold I64;grind)|grind)
 ·refine ⟨i+1,(by (refine wk_auto ?_;refine Sel4.mk rfl rfl ?_ ?_<;>(repeat' first|exact True.intro|exact rfl|exact .inl rfl|exact .inr rfl|refine And.intro ?_ ?_|fail))),⟨by omega,?_⟩,by omega⟩
  rw [hts,List.all_append,hI]
  grind
 ·refine hK _ ?_
  have h1:(f++[t]).all isWord=false:=by
   rw [List.all_eq_false]
   exact ⟨f[i],List.mem_append_left _ (List.getElem_mem hi2),by grind⟩
  rw [if_pos h1]
end Gv
namespace Gv
variable [Glob] [Laid]
theorem leq_not (a b:Bs):(Op.bytesLess a b || decide (a=b))=!Op.bytesLess b a:=by
 rw [less_eq,less_eq]
 by_cases h1:b<a
 ·have h2:¬ a<b:=fun h=>List.lt_irrefl _ (List.lt_trans h h1)
  have h3:¬ a=b:=fun e=>by subst e;exact List.lt_irrefl _ h1
  simp [h1,h2,h3]
 ·by_cases e:a=b
  ·subst e
   simp [h1]
  ·have h2:a<b:=Decidable.byContradiction fun h=>e (List.le_antisymm h1 h)
   simp [h1,h2]
theorem cfilesR_ca:callable Tryz.prog 21=true:=by kernel_rfl
def cfilesR_S:Spec:=fun args K=>∃ l:List FileS,args=[.sl fileV l]∧K (.int .i64 (checkFiles l))
noncomputable def cfilesR_lib:List (Nat × Spec):=[(33,isWordR_S)]
noncomputable def cfilesR_fns:List (Nat × FnI):=[]
noncomputable def cfilesR_prims:List (Nat × PSpec):=[]
theorem cfilesR_E:EnvOK ⟨Tryz.prog,tys,cfilesR_lib,cfilesR_fns,cfilesR_prims,[]⟩:=env_ok mixed0 tys0 (.cons isWordR_ca isWordR_ok .nil) .nil .nil rfl
theorem cfilesR_ok:Pure Tryz.prog 21 cfilesR_S:=by
 refine pure_by cfilesR_E 6 (fi:={fn:=Tryz.f21,hooks:=[],draws:=[(10,[0,1,3,7,15,7,7,71,231,487,999,2047,4095,8191])]}) ⟨Tryz.func21,by kernel_rfl,by kernel_rfl⟩ ?_
 rintro _ K ⟨l,rfl,hK⟩
 replace hK:∀ r,r=.int .i64 (checkFiles l)→K r:=fun r h=>h ▸ hK
 repeat' first|(refine fun (b:Bool) hb=>?_;cases b<;>first|exact absurd hb (by decide)|exact nfl hb|exact nfr hb|skip)|(refine fun (hl:_≤MAXL)=>?_)|fail
 rotate_left
 ·refine hK _ ?_
  have h:=of_decide_eq_true (by assumption:decide ((12:Int)<(l.length:Int))=true)
  unfold checkFiles
  rw [if_pos (by omega)]
 have h12:¬ 12<l.length:=by
  have h:=of_decide_eq_false (by assumption:decide ((12:Int)<(l.length:Int))=false)
  omega
 have hcf:checkFiles l=filesGo none l:=by unfold checkFiles;rw [if_neg h12]
 rw [hcf] at hK
 conv=>whnf
 refine loop_live [0,8,9] (σ:=Nat) (fun i=>[(10,.int .i64 i)]) (fun i=>[]) (fun i=>i≤l.length∧filesGo (prevN l i) (l.drop i)=filesGo none l) (fun i=>l.length-i) 0 ?_
 conv=>whnf
 refine ⟨(by (refine wk_auto ?_;refine Sel4.mk rfl rfl ?_ ?_<;>(repeat' first|exact True.intro|exact rfl|exact .inl rfl|exact .inr rfl|refine And.intro ?_ ?_|fail))),⟨Nat.zero_le _,rfl⟩,fun i hi=>?_⟩
 obtain ⟨hi,hg⟩:=hi
 repeat' first|(refine fun (b:Bool) hb=>?_;cases b<;>first|exact absurd hb (by decide)|exact nfl hb|exact nfr hb|skip)|refine ⟨_,rfl,?_,rfl,?_⟩|fail
 ·have h:=of_decide_eq_false (by assumption:decide ((i:Int)<(l.length:Int))=false)
  have e:l.drop i=[]:=List.drop_eq_nil_of_le (by omega)
  rw [e] at hg
  conv=>whnf
  refine hK _ ?_
  rw [←hg]
  rfl
 ·have h:=of_decide_eq_true (by assumption:decide ((i:Int)<(l.length:Int))=true)
  show i<l.length
  omega
 have hlt:i<l.length:=by
  have h:=of_decide_eq_true (by assumption:decide ((i:Int)<(l.length:Int))=true)
  omega
 rw [filesGo_at hlt] at hg
 refine ⟨l[i].name,rfl,?_⟩
 repeat' first|exact True.intro|(refine fun (b:Bool) hb=>?_;cases b<;>first|exact absurd hb (by decide)|exact nfl hb|exact nfr hb|skip)|(refine fun (hl:_≤MAXL)=>?_)|refine And.intro (a:=I64 _) ?_ ?_|refine ⟨_,⟨rfl,rfl⟩,?_⟩|refine ⟨_,And.intro (a:=I64 _) ?_ ⟨rfl,rfl⟩,?_⟩|refine And.intro (a:=chkPast _ _ _ _ _ _ _ _) ?_ ?_|fail
 ·unfold I64;omega
 ·have h1:isWord l[i].name=true := by
   have h:(!isWord l[i].name)=false:=by assumption
   simpa using h
  have h2:¬ (4000:Int)<(l[i].b.length:Int):=of_decide_eq_false (by assumption)
  have h3:¬ (0:Int)<(i:Int):=of_decide_eq_false (by assumption)
  have e0:i=0:=by omega
  have h4:notRise (prevN l i) l[i].name=false:=by
   have:prevN l i=none:=by unfold prevN;rw [if_pos e0]
   rw [this];rfl
  rw [if_neg (by rw [h1];decide),if_neg (by omega),if_neg (by rw [h4];decide)] at hg
  exact ⟨i+1,(by (refine wk_auto ?_;refine Sel4.mk rfl rfl ?_ ?_<;>(repeat' first|exact True.intro|exact rfl|exact .inl rfl|exact .inr rfl|refine And.intro ?_ ?_|fail))),⟨hlt,hg⟩,by omega⟩
 ·unfold I64;omega
 ·have h1:isWord l[i].name=true := by
   have h:(!isWord l[i].name)=false:=by assumption
   simpa using h
  have h2:¬ (4000:Int)<(l[i].b.length:Int):=of_decide_eq_false (by assumption)
  have h3:(0:Int)<(i:Int):=of_decide_eq_true (by assumption)
  have hp:prevN l i=some (l[i-1]'(by omega)).name:=by
   unfold prevN
   rw [if_neg (by omega),List.getD_eq_getElem?_getD,List.getElem?_eq_getElem (by omega)]
   rfl
  rw [if_neg (by rw [h1];decide),if_neg (by omega),hp] at hg
  conv=>whnf
  refine ⟨_,⟨i-1,by omega,by omega,rfl,rfl,rfl⟩,?_⟩
  repeat' first|(refine fun (b:Bool) hb=>?_;cases b<;>first|exact absurd hb (by decide)|exact nfl hb|exact nfr hb|skip)|refine And.intro (a:=I64 _) ?_ ?_|refine ⟨_,⟨rfl,rfl⟩,?_⟩|fail
  ·unfold I64;omega
  ·have h4:notRise (some (l[i-1]'(by omega)).name) l[i].name=false := by
    have h:(Op.bytesLess l[i].name (l[i-1]'(by omega)).name || decide (l[i].name=(l[i-1]'(by omega)).name))=false:=by assumption
    rw [leq_not] at h
    exact h
   rw [if_neg (by rw [h4];decide)] at hg
   exact ⟨i+1,(by (refine wk_auto ?_;refine Sel4.mk rfl rfl ?_ ?_<;>(repeat' first|exact True.intro|exact rfl|exact .inl rfl|exact .inr rfl|refine And.intro ?_ ?_|fail))),⟨hlt,hg⟩,by omega⟩
  ·have h4:notRise (some (l[i-1]'(by omega)).name) l[i].name=true := by
    have h:(Op.bytesLess l[i].name (l[i-1]'(by omega)).name || decide (l[i].name=(l[i-1]'(by omega)).name))=true:=by assumption
    rw [leq_not] at h
    exact h
   rw [if_pos h4] at hg
   conv=>whnf
   exact hK _ (by rw [←hg])
 ·have h1:isWord l[i].name=true := by
   have h:(!isWord l[i].name)=false:=by assumption
   simpa using h
  have h2:(4000:Int)<(l[i].b.length:Int):=of_decide_eq_true (by assumption)
  rw [if_neg (by rw [h1];decide),if_pos (by omega)] at hg
  conv=>whnf
  exact hK _ (by rw [←hg])
 ·have h1:isWord l[i].name=false := by
   have h:(!isWord l[i].name)=true:=by assumption
   simpa using h
  rw [if_pos h1] at hg
  conv=>whnf
  exact hK _ (by rw [←hg])
end Gv
namespace Gv
variable [Glob] [Laid]
theorem fileOfR_ca:callable Tryz.prog 91=true:=by kernel_rfl
def fileOfR_S:Spec:=fun args K=>∃ (F:List FileS) (n:Bs),args=[.sl fileV F,.str n]∧K (.sl byteV (getN F n))
noncomputable def fileOfR_lib:List (Nat × Spec):=[]
noncomputable def fileOfR_fns:List (Nat × FnI):=[]
noncomputable def fileOfR_prims:List (Nat × PSpec):=[]
theorem fileOfR_E:EnvOK ⟨Tryz.prog,tys,fileOfR_lib,fileOfR_fns,fileOfR_prims,[]⟩:=env_ok mixed0 tys0 .nil .nil .nil rfl
theorem fileOfR_ok:Pure Tryz.prog 91 fileOfR_S:=by
 refine pure_by fileOfR_E 6 (fi:={fn:=Tryz.f91,hooks:=[],draws:=[]}) ⟨Tryz.func91,by kernel_rfl,by kernel_rfl⟩ ?_
 rintro _ K ⟨F,n,rfl,hK⟩
 replace hK:∀ r,r=.sl byteV (getN F n)→K r:=fun r h=>h ▸ hK
 repeat' first|(refine fun (hl:_≤MAXL)=>?_)|fail
 conv=>whnf
 refine loop_live [1,7,8] (σ:=Nat) (fun i=>[(9,.int .i64 i)]) (fun _=>[]) (fun i=>i≤F.length∧getN (F.drop i) n=getN F n) (fun i=>F.length-i) 0 ?_
 conv=>whnf
 refine ⟨(by (refine wk_auto ?_;refine Sel4.mk rfl rfl ?_ ?_<;>(repeat' first|exact True.intro|exact rfl|exact .inl rfl|exact .inr rfl|refine And.intro ?_ ?_|fail))),⟨Nat.zero_le _,rfl⟩,fun i hi=>?_⟩
 obtain ⟨hi,hg⟩:=hi
 repeat' first|(refine fun (b:Bool) hb=>?_;cases b<;>first|exact absurd hb (by decide)|exact nfl hb|exact nfr hb|skip)|refine And.intro (a:=I64 _) ?_ ?_|refine ⟨_,rfl,?_,rfl,?_⟩|fail
 ·have hge:¬ (i:Int)<(F.length:Int):=of_decide_eq_false (by assumption)
  have e:F.drop i=[]:=List.drop_eq_nil_of_le (by omega)
  rw [e] at hg
  conv=>whnf
  skip
  refine ⟨UInt8,byteV,?_⟩
  refine hK _ ?_
  rw [←hg]
  rfl
 ·have h:=of_decide_eq_true (by assumption:decide ((i:Int)<(F.length:Int))=true)
  show i<F.length
  omega
 ·have hm:F.length≤MAXL:=by assumption
  unfold MAXL at hm
  have h:=of_decide_eq_true (by assumption:decide ((i:Int)<(F.length:Int))=true)
  unfold I64;omega
 all_goals
  have hlt:i<F.length:=by
   have h:=of_decide_eq_true (by assumption:decide ((i:Int)<(F.length:Int))=true)
   omega
  rw [List.drop_eq_getElem_cons hlt] at hg
  unfold getN at hg
  rw [List.find?_cons] at hg
 ·have hn:¬ F[i].name=n:=of_decide_eq_false (by assumption)
  rw [decide_eq_false hn] at hg
  conv=>whnf
  skip
  exact ⟨i+1,(by (refine wk_auto ?_;refine Sel4.mk rfl rfl ?_ ?_<;>(repeat' first|exact True.intro|exact rfl|exact .inl rfl|exact .inr rfl|refine And.intro ?_ ?_|fail))),⟨hlt,hg⟩,by omega⟩
 ·have hn:F[i].name=n:=of_decide_eq_true (by assumption)
  rw [decide_eq_true hn] at hg
  conv=>whnf
  skip
  refine hK _ ?_
  show _=V.sl byteV ((Option.map (·.b) (F.find? fun f=>decide (f.name=n))).getD [])
  rw [←hg]
  rfl
end Gv
namespace Gv
variable [Glob] [Laid]
theorem linesOfR_ca:callable Tryz.prog 38=true:=by kernel_rfl
def linesOfR_S:Spec:=fun args K=>∃ (b:Bs),args=[.sl byteV b]∧b.length≤1000000∧K (.sl strV (linesOf b))
noncomputable def linesOfR_lib:List (Nat × Spec):=[(105,splitS_S)]
noncomputable def linesOfR_fns:List (Nat × FnI):=[]
noncomputable def linesOfR_prims:List (Nat × PSpec):=[]
theorem linesOfR_E:EnvOK ⟨Tryz.prog,tys,linesOfR_lib,linesOfR_fns,linesOfR_prims,[]⟩:=env_ok mixed0 tys0 (.cons splitS_ca splitS_ok .nil) .nil .nil rfl
theorem linesOfR_ok:Pure Tryz.prog 38 linesOfR_S:=by
 refine pure_by linesOfR_E 6 (fi:={fn:=Tryz.f38,hooks:=[],draws:=[]}) ⟨Tryz.func38,by kernel_rfl,by kernel_rfl⟩ ?_
 rintro _ K ⟨b,rfl,hz,hK⟩
 replace hK:∀ r,r=.sl strV (linesOf b)→K r:=fun r h=>h ▸ hK
 have hsl:=split_lines b
 have hsn:0<(Lib.split b [10]).length:=List.length_pos_iff.2 (split_ne b [10])
 obtain ⟨L,hL⟩:∃ L,Lib.split b [10]=L:=⟨_,rfl⟩
 refine ⟨b,fun _=>rfl,rfl,?_⟩
 refine ⟨b,[10],rfl,⟨by omega,by decide⟩,?_⟩
 rw [hL] at hsl hsn ⊢
 repeat' first|(refine fun (hl:_≤MAXL)=>?_)|refine And.intro (a:=I64 _) ?_ ?_|fail
 ·(first|omega|(unfold I64;omega)|(simp only [List.length_append,List.length_map,List.length_cons,List.length_nil,Nat.mul_one,Int.ofNat_eq_natCast] at *;omega)|(dsimp only at *;omega)|(unfold I64;dsimp only at *;omega)|(unfold I64;grind)|grind)
 refine ⟨L.length-1,by omega,by omega,?_⟩
 repeat' first|(refine fun (b:Bool) hb=>?_;cases b<;>first|exact absurd hb (by decide)|exact nfl hb|exact nfr hb|skip)|(refine fun (hl:_≤MAXL)=>?_)|refine And.intro (a:=I64 _) ?_ ?_|refine ⟨(fun _=>rfl),?_⟩|refine ⟨rfl,?_⟩|fail
 ·have h:¬ L[L.length-1]=[]:=of_decide_eq_false (by assumption)
  conv=>whnf
  refine hK _ ?_
  rw [←hsl]
  unfold dropE
  rw [if_neg (by rw [List.getLast?_eq_getElem?,List.getElem?_eq_getElem (by omega)];simpa using h)]
 ·(first|omega|(unfold I64;omega)|(simp only [List.length_append,List.length_map,List.length_cons,List.length_nil,Nat.mul_one,Int.ofNat_eq_natCast] at *;omega)|(dsimp only at *;omega)|(unfold I64;dsimp only at *;omega)|(unfold I64;grind)|grind)
 have h:L[L.length-1]=[]:=of_decide_eq_true (by assumption)
 refine ⟨L.length-1,by omega,by omega,?_⟩
 skip
 refine hK _ ?_
 rw [←hsl]
 unfold dropE
 rw [if_pos (by rw [List.getLast?_eq_getElem?,List.getElem?_eq_getElem (by omega),h]),List.dropLast_eq_take]
end Gv
namespace Gv
variable [Glob] [Laid]
theorem joinS_ca:callable Tryz.prog 103=true:=by kernel_rfl
def joinS_S:Spec:=fun args K=>∃ (l:List Bs) (sep:Bs),args=[.sl strV l,.str sep]∧(l.length≤140737488355328∧(Lib.join l sep).length≤140737488355328)∧K (.str (Lib.join l sep))
theorem joinS_ok:Pure Tryz.prog 103 joinS_S:=by
 intro w m args us K hm hg hv hT
 obtain ⟨l,sep,rfl,⟨h1,h2⟩,hK⟩:=hT
 obtain ⟨a,b,rfl,ha,hb⟩:=args2 hv.1 hv.2
 obtain ⟨p,c,rfl,hlc,hc,hp⟩:=strs_open ha hm
 obtain ⟨rfl,-⟩:=vr_str hb
 by_cases hl:l=[]
 ·subst hl
  refine (Tryz.strings_Join_none p c (ba sep) w).mono fun e w' ⟨he,hw⟩=>?_
  subst hw
  exact ⟨_,_,he,Bel.refl _ _,hK,.str (s:=[]) (Nat.zero_le _)⟩
 ·obtain ⟨bk,o,rfl,hbk,hx,hx2⟩:=hp hl
  have e1:(l.map ba).map (fun x=>x.data.toList)=l:=by
   rw [List.map_map]
   conv=>rhs;rw [←List.map_id l]
   rfl
  have e2:(l.map ba).length=l.length:=List.length_map ..
  have:=Tryz.strings_Join bk o c (l.map ba) (ba sep) w (fun j x hj=>by
   rw [List.getElem?_map] at hj
   obtain ⟨y,hy,rfl⟩:=Option.map_eq_some_iff.1 hj
   exact hx j y hy) hbk (by rw [e2];exact h1) (by rw [e2];exact hlc) (by rw [e1];exact h2)
  rw [e1,e2] at this
  refine this.mono fun e w' ⟨he,hw⟩=>?_
  exact ⟨_,_,he,Bel.of_below hw,hK,.str (by have:=h2;unfold MAXL;show (Lib.join l sep).length≤_;omega)⟩
end Gv
namespace Gv
variable [Glob] [Laid]
theorem bytesOfR_ca:callable Tryz.prog 36=true:=by kernel_rfl
def bytesOfR_S:Spec:=fun args K=>∃ (l:List Bs),args=[.sl strV l]∧(put l).length≤1000000∧K (.sl byteV (put l))
noncomputable def bytesOfR_lib:List (Nat × Spec):=[(103,joinS_S)]
noncomputable def bytesOfR_fns:List (Nat × FnI):=[]
noncomputable def bytesOfR_prims:List (Nat × PSpec):=[]
theorem bytesOfR_E:EnvOK ⟨Tryz.prog,tys,bytesOfR_lib,bytesOfR_fns,bytesOfR_prims,[]⟩:=env_ok mixed0 tys0 (.cons joinS_ca joinS_ok .nil) .nil .nil rfl
theorem bytesOfR_ok:Pure Tryz.prog 36 bytesOfR_S:=by
 refine pure_by bytesOfR_E 6 (fi:={fn:=Tryz.f36,hooks:=[],draws:=[]}) ⟨Tryz.func36,by kernel_rfl,by kernel_rfl⟩ ?_
 rintro _ K ⟨l,rfl,hz,hK⟩
 replace hK:∀ r,r=.sl byteV (put l)→K r:=fun r h=>h ▸ hK
 have hj:=join_put l
 have hjl:(Lib.join l [10]).length≤(put l).length:=by
  rw [←hj]
  split
  ·simp
  ·exact Nat.le_refl _
 have hll:=put_len (l:=l) (n:=1000000) hz
 refine ⟨l,[10],rfl,⟨by omega,by omega⟩,?_⟩
 repeat' first|(refine fun (b:Bool) hb=>?_;cases b<;>first|exact absurd hb (by decide)|exact nfl hb|exact nfr hb|skip)|(refine fun (hl:_≤MAXL)=>?_)|refine And.intro (a:=_≤140737488355328) ?_ ?_|refine Opt.a ?_|fail
 ·omega
 ·conv=>whnf
  refine hK _ ?_
  rw [←hj,if_neg (by have:=of_decide_eq_false (by assumption:decide ((0:Int)<(l.length:Int))=false);omega)]
 all_goals have hp:0<l.length:=by have:=of_decide_eq_true (by assumption:decide ((0:Int)<(l.length:Int))=true);omega
 rw [if_pos hp] at hj
 conv=>whnf
 refine ⟨by show (Lib.join l [10]).length+1≤MAXL;unfold MAXL;omega,?_⟩
 repeat' first|refine And.intro (a:=_≤140737488355328) ?_ ?_|refine Opt.a ?_|fail
 ·show (Lib.join l [10]++[10]).length≤140737488355328
  rw [hj]
  omega
 conv=>whnf
 refine hK _ ?_
 show V.sl byteV (Lib.join l [10]++[10])=_
 rw [hj]
end Gv
namespace Gv
variable [Glob] [Laid]
theorem wholeR_ca:callable Tryz.prog 68=true:=by kernel_rfl
def wholeR_S:Spec:=fun args K=>∃ b:Bs,args=[.sl byteV b]∧b.length≤100000∧K (.sl byteV (whole b))
noncomputable def wholeR_lib:List (Nat × Spec):=[(38,linesOfR_S),(36,bytesOfR_S)]
noncomputable def wholeR_fns:List (Nat × FnI):=[]
noncomputable def wholeR_prims:List (Nat × PSpec):=[]
theorem wholeR_E:EnvOK ⟨Tryz.prog,tys,wholeR_lib,wholeR_fns,wholeR_prims,[]⟩:=env_ok mixed0 tys0 (.cons linesOfR_ca linesOfR_ok (.cons bytesOfR_ca bytesOfR_ok .nil)) .nil .nil rfl
theorem wholeR_ok:Pure Tryz.prog 68 wholeR_S:=by
 refine pure_by wholeR_E 6 (fi:={fn:=Tryz.f68,hooks:=[],draws:=[]}) ⟨Tryz.func68,by kernel_rfl,by kernel_rfl⟩ ?_
 rintro _ K ⟨b,rfl,hb,hK⟩
 replace hK:∀ r,r=.sl byteV (whole b)→K r:=fun r h=>h ▸ hK
 have h1:=whole_len b
 repeat' (first|exact True.intro|refine ⟨_,LeL.refl _,?_⟩|refine ⟨_,_,_,LeL.refl _,?_⟩|(refine fun (b:Bool) hb=>?_;cases b<;>first|exact absurd hb (by decide)|exact nfl hb|exact nfr hb|skip)|(refine fun (hl:_≤MAXL)=>?_)|refine And.intro (a:=I64 _) ?_ ?_|refine And.intro (a:=_≤140737488355328) ?_ ?_|refine ⟨_,⟨rfl,rfl⟩,?_⟩|refine ⟨_,And.intro (a:=I64 _) ?_ ⟨rfl,rfl⟩,?_⟩|refine ⟨_,_,⟨rfl,rfl⟩,?_⟩|refine ⟨_,(fun _=>⟨rfl,rfl⟩),?_⟩|refine And.intro (a:=chkPend _ _ _ _ _ _) ?_ ?_|refine And.intro (a:=chkPast _ _ _ _ _ _ _ _) ?_ ?_|refine ⟨⟨rfl,rfl⟩,?_⟩|refine And.intro (And.intro rfl rfl) ?_|refine ⟨True.intro,?_⟩|refine ⟨_,⟨_,rfl,?_,rfl,rfl,rfl⟩,?_⟩|refine ⟨_,rfl,?_,rfl,?_⟩|refine ⟨_,(fun _=>rfl),rfl,?_⟩|refine ⟨(fun _=>rfl),?_⟩|refine ⟨rfl,?_⟩|refine Opt.a ?_|fail)
 refine ⟨b,rfl,by omega,?_⟩
 repeat' (first|exact True.intro|refine ⟨_,LeL.refl _,?_⟩|refine ⟨_,_,_,LeL.refl _,?_⟩|(refine fun (b:Bool) hb=>?_;cases b<;>first|exact absurd hb (by decide)|exact nfl hb|exact nfr hb|skip)|(refine fun (hl:_≤MAXL)=>?_)|refine And.intro (a:=I64 _) ?_ ?_|refine And.intro (a:=_≤140737488355328) ?_ ?_|refine ⟨_,⟨rfl,rfl⟩,?_⟩|refine ⟨_,And.intro (a:=I64 _) ?_ ⟨rfl,rfl⟩,?_⟩|refine ⟨_,_,⟨rfl,rfl⟩,?_⟩|refine ⟨_,(fun _=>⟨rfl,rfl⟩),?_⟩|refine And.intro (a:=chkPend _ _ _ _ _ _) ?_ ?_|refine And.intro (a:=chkPast _ _ _ _ _ _ _ _) ?_ ?_|refine ⟨⟨rfl,rfl⟩,?_⟩|refine And.intro (And.intro rfl rfl) ?_|refine ⟨True.intro,?_⟩|refine ⟨_,⟨_,rfl,?_,rfl,rfl,rfl⟩,?_⟩|refine ⟨_,rfl,?_,rfl,?_⟩|refine ⟨_,(fun _=>rfl),rfl,?_⟩|refine ⟨(fun _=>rfl),?_⟩|refine ⟨rfl,?_⟩|refine Opt.a ?_|fail)
 refine ⟨linesOf b,rfl,by show (whole b).length≤1000000;omega,?_⟩
 repeat' (first|exact True.intro|refine ⟨_,LeL.refl _,?_⟩|refine ⟨_,_,_,LeL.refl _,?_⟩|(refine fun (b:Bool) hb=>?_;cases b<;>first|exact absurd hb (by decide)|exact nfl hb|exact nfr hb|skip)|(refine fun (hl:_≤MAXL)=>?_)|refine And.intro (a:=I64 _) ?_ ?_|refine And.intro (a:=_≤140737488355328) ?_ ?_|refine ⟨_,⟨rfl,rfl⟩,?_⟩|refine ⟨_,And.intro (a:=I64 _) ?_ ⟨rfl,rfl⟩,?_⟩|refine ⟨_,_,⟨rfl,rfl⟩,?_⟩|refine ⟨_,(fun _=>⟨rfl,rfl⟩),?_⟩|refine And.intro (a:=chkPend _ _ _ _ _ _) ?_ ?_|refine And.intro (a:=chkPast _ _ _ _ _ _ _ _) ?_ ?_|refine ⟨⟨rfl,rfl⟩,?_⟩|refine And.intro (And.intro rfl rfl) ?_|refine ⟨True.intro,?_⟩|refine ⟨_,⟨_,rfl,?_,rfl,rfl,rfl⟩,?_⟩|refine ⟨_,rfl,?_,rfl,?_⟩|refine ⟨_,(fun _=>rfl),rfl,?_⟩|refine ⟨(fun _=>rfl),?_⟩|refine ⟨rfl,?_⟩|refine Opt.a ?_|fail)
 exact hK _ rfl
end Gv
namespace Gv
variable [Glob] [Laid]
theorem gatheredR_ca:callable Tryz.prog 22=true:=by kernel_rfl
def gatheredR_S:Spec:=fun args K=>∃ (F:List FileS) (f:List Bs),args=[.sl fileV F,.sl strV f]∧checkFiles F=0∧K (.tup [.sl byteV (gatherS F f).1,.int .i64 (gatherS F f).2])
noncomputable def gatheredR_lib:List (Nat × Spec):=[(91,fileOfR_S),(68,wholeR_S)]
noncomputable def gatheredR_fns:List (Nat × FnI):=[]
noncomputable def gatheredR_prims:List (Nat × PSpec):=[]
theorem gatheredR_E:EnvOK ⟨Tryz.prog,tys,gatheredR_lib,gatheredR_fns,gatheredR_prims,[]⟩:=env_ok mixed0 tys0 (.cons fileOfR_ca fileOfR_ok (.cons wholeR_ca wholeR_ok .nil)) .nil .nil rfl
theorem gatheredR_ok:Pure Tryz.prog 22 gatheredR_S:=by
 refine pure_by gatheredR_E 6 (fi:={fn:=Tryz.f22,hooks:=[],draws:=[]}) ⟨Tryz.func22,by kernel_rfl,by kernel_rfl⟩ ?_
 rintro _ K ⟨F,f,rfl,hF,hK⟩
 replace hK:∀ r,r=.tup [.sl byteV (gatherS F f).1,.int .i64 (gatherS F f).2]→K r:=fun r h=>h ▸ hK
 have hR:=(files_iff.1 hF).2.2
 have hfb:=(files_iff.1 hF).2.1
 have hone:∀ r:Bs × Int,(if 4<f.length then ([],2) else gatherGo F [] f)=r→K (.tup [.sl byteV r.1,.int .i64 r.2]):=fun r h=>hK _ (by unfold gatherS;rw [if_neg (fun h=>h hF),h])
 repeat' first|(refine fun (b:Bool) hb=>?_;cases b<;>first|exact absurd hb (by decide)|exact nfl hb|exact nfr hb|skip)|(refine fun (hl:_≤MAXL)=>?_)|fail
 rotate_left
 ·have h4:4<f.length := by
   have h:=of_decide_eq_true (by assumption:decide ((4:Int)<(f.length:Int))=true)
   omega
  rw [if_pos h4] at hone
  conv=>whnf
  skip
  refine ⟨UInt8,byteV,?_⟩
  exact hone _ rfl
 have h4:¬ 4<f.length:=by
  have h:=of_decide_eq_false (by assumption:decide ((4:Int)<(f.length:Int))=false)
  omega
 rw [if_neg h4] at hone
 conv=>whnf
 skip
 conv=>whnf
 refine loop_live [0,12,13] (σ:=Nat × Bs) (fun s=>[(14,.int .i64 s.1),(6,.own 0)]) (fun s=>[.row 1 (s.2.map byteV)]) (fun s=>s.1≤f.length∧gatherGo F s.2 (f.drop s.1)=gatherGo F [] f∧s.2.length≤4000) (fun s=>f.length-s.1) (0,[]) ?_
 conv=>whnf
 refine ⟨(by (refine wk_sel [none] rfl rfl ?_ ?_<;>(repeat' first|exact True.intro|exact rfl|exact .inl rfl|exact .inr rfl|refine And.intro ?_ ?_|fail))),⟨Nat.zero_le _,rfl,by simp⟩,fun s hs=>?_⟩
 obtain ⟨i,out⟩:=s
 obtain ⟨hi,hg,ho⟩:=hs
 dsimp only at hi hg ho
 repeat' first|refine ⟨_,_,_,LeL.refl _,?_⟩|(refine fun (b:Bool) hb=>?_;cases b<;>first|exact absurd hb (by decide)|exact nfl hb|exact nfr hb|skip)|refine ⟨_,rfl,?_,rfl,?_⟩|fail
 ·have hge:¬ (i:Int)<(f.length:Int):=of_decide_eq_false (by assumption)
  have e:f.drop i=[]:=List.drop_eq_nil_of_le (by omega)
  rw [e] at hg
  conv=>whnf
  exact hone _ hg.symm
 ·have h:=of_decide_eq_true (by assumption:decide ((i:Int)<(f.length:Int))=true)
  show i<f.length
  omega
 have hlt:i<f.length:=by
  have h:=of_decide_eq_true (by assumption:decide ((i:Int)<(f.length:Int))=true)
  omega
 rw [List.drop_eq_getElem_cons hlt,gatherGo,fileAt_getN hR] at hg
 have hgl:(getN F f[i]).length≤4000:=by
  rw [←fileAt_getN hR]
  exact fileAt_len (fun g hg=>(hfb g hg).2) _
 have hw:=whole_len (getN F f[i])
 conv=>whnf
 skip
 refine ⟨F,f[i],rfl,?_⟩
 skip
 refine ⟨getN F f[i],rfl,by omega,?_⟩
 repeat' first|(refine fun (b:Bool) hb=>?_;cases b<;>first|exact absurd hb (by decide)|exact nfl hb|exact nfr hb|skip)|(refine fun (hl:_≤MAXL)=>?_)|refine And.intro (a:=I64 _) ?_ ?_|refine And.intro (a:=_≤140737488355328) ?_ ?_|refine ⟨(fun _=>rfl),?_⟩|fail
 ·show ((out.map byteV).length+((whole (getN F f[i])).map byteV).length)*1≤140737488355328
  rw [List.length_map,List.length_map];omega
 ·unfold I64;dsimp only;omega
 ·have h:=of_decide_eq_false (by assumption:decide ((4000:Int)<((out.map byteV++(whole (getN F f[i])).map byteV).length:Int))=false)
  rw [List.length_append,List.length_map,List.length_map] at h
  rw [if_neg (by omega)] at hg
  conv=>whnf
  skip
  refine ⟨(i+1,out++whole (getN F f[i])),?_,⟨hlt,hg,by show (out++_).length≤4000;rw [List.length_append];omega⟩,by show f.length-(i+1)<f.length-i;omega⟩
  (refine wk_auto ?_;refine Sel4.mk rfl rfl ?_ ?_<;>(repeat' first|exact True.intro|exact rfl|exact .inl rfl|exact .inr rfl|refine And.intro ?_ ?_|fail))
  show Row.row 1 _=Row.row 1 _
  rw [List.map_append]
 ·have h:=of_decide_eq_true (by assumption:decide ((4000:Int)<((out.map byteV++(whole (getN F f[i])).map byteV).length:Int))=true)
  rw [List.length_append,List.length_map,List.length_map] at h
  rw [if_pos (by omega)] at hg
  conv=>whnf
  skip
  refine ⟨UInt8,byteV,?_⟩
  exact hone _ hg.symm
end Gv
namespace Gv
variable [Glob] [Laid] [Nums]
theorem madeR_ca:callable Tryz.prog 37=true:=by kernel_rfl
def madeR_S:Spec:=fun args K=>∃ (c:Cmd) (l:List Bs),args=[cmdV c,.sl strV l]∧(checkCmd c=0∧l.length≤100000∧∀ s∈l,s.length≤100000)∧K (.sl strV (linesC c l))
noncomputable def madeR_lib:List (Nat × Spec):=[(104,containsS_S),(105,splitS_S),(107,itoa_S)]
noncomputable def madeR_fns:List (Nat × FnI):=[(106,{fn:=Tryz.f106,hooks:=[],draws:=[]})]
noncomputable def madeR_prims:List (Nat × PSpec):=[(159,sortS_P)]
theorem madeR_E:EnvOK ⟨Tryz.prog,tys,madeR_lib,madeR_fns,madeR_prims,[]⟩:=env_ok mixed0 tys0 (.cons containsS_ca containsS_ok (.cons splitS_ca splitS_ok (.cons itoa_ca itoa_ok .nil))) (.cons (by kernel_rfl) ⟨Tryz.func106,by kernel_rfl,by kernel_rfl⟩ .nil) (.cons sortS_prim .nil) rfl
set_option maxHeartbeats 40000000 in
theorem madeR_ok:Pure Tryz.prog 37 madeR_S:=by
 refine pure_by madeR_E 6 (fi:={fn:=Tryz.f37,hooks:=[40],draws:=[(16,[0,0,3,7,0,16,48,127])]}) ⟨Tryz.func37,by kernel_rfl,by kernel_rfl⟩ ?_
 rintro _ K ⟨c,l,rfl,⟨hc,hlc,hs⟩,hK⟩
 replace hK:∀ r,r=.sl strV (linesC c l)→K r:=fun r h=>h ▸ hK
 have hkind:1≤c.kind∧c.kind≤10:=by
  unfold checkCmd at hc
  grind
 repeat' first|(refine fun (hl:_≤MAXL)=>?_)|fail
 conv=>whnf
 refine loop_live [1,2,14,15] (σ:=Nat × List Bs) (fun s=>[(16,.int .i64 s.1),(5,.own 1)]) (fun s=>[.box (cmdV c).cells,.row 1 (s.2.map strV)]) (fun s=>s.2=accM c l s.1∧s.1≤l.length) (fun s=>l.length-s.1) (0,[]) ?_
 conv=>whnf
 refine ⟨(by (refine wk_auto ?_;refine Sel4.mk rfl rfl ?_ ?_<;>(repeat' first|exact True.intro|exact rfl|exact .inl rfl|exact .inr rfl|refine And.intro ?_ ?_|fail))),⟨(accM_0 c l).symm,Nat.zero_le _⟩,fun s hs=>?_⟩
 obtain ⟨i,out⟩:=s
 obtain ⟨ho,hi⟩:=hs
 dsimp only at ho hi
 have hol:out.length≤100000:=by rw [ho];exact Nat.le_trans (accM_len c l i hi) hlc
 repeat' first|refine ⟨_,_,_,LeL.refl _,?_⟩|(refine fun (b:Bool) hb=>?_;cases b<;>first|exact absurd hb (by decide)|exact nfl hb|exact nfr hb|skip)|(refine fun (hl:_≤MAXL)=>?_)|refine ⟨_,rfl,?_,rfl,?_⟩|fail
 ·
  have h:¬ (i:Int)<(l.length:Int):=of_decide_eq_false (by assumption)
  have e:i=l.length:=by omega
  have h6:c.kind≠6:=of_decide_eq_false (by assumption)
  have h8:c.kind≠8:=of_decide_eq_false (by assumption)
  rw [e,accM_end h6 h8] at ho
  conv=>whnf
  exact hK _ (by rw [←ho])
 ·have h8:c.kind=8:=of_decide_eq_true (by assumption)
  refine ⟨l.length,rfl,⟨by omega,by omega⟩,?_⟩
  skip
  refine ⟨Bs,strV,[Lib.itoa l.length],LeL.refl _,?_⟩
  refine hK _ ?_
  unfold linesC
  rw [if_neg (by omega),if_neg (by omega),if_pos h8]
 ·have h6:c.kind=6:=of_decide_eq_true (by assumption)
  skip
  have h:¬ (i:Int)<(l.length:Int):=of_decide_eq_false (by assumption)
  have e:i=l.length:=by omega
  have ho6:out=l:=by rw [ho,e];unfold accM;rw [if_pos h6,List.take_length]
  refine .inl ⟨out,rfl,rfl,by omega,?_⟩
  repeat' first|refine ⟨_,_,_,LeL.refl _,?_⟩|(refine fun (b:Bool) hb=>?_;cases b<;>first|exact absurd hb (by decide)|exact nfl hb|exact nfr hb|skip)|(refine fun (hl:_≤MAXL)=>?_)|fail
  ·refine hK _ ?_
   unfold linesC
   rw [if_pos h6,ho6]
  ·have h8:c.kind=8:=of_decide_eq_true (by assumption)
   omega
 ·have h:=of_decide_eq_true (by assumption:decide ((i:Int)<(l.length:Int))=true)
  show i<l.length
  omega
 have hlt:i<l.length:=by
  have h:=of_decide_eq_true (by assumption:decide ((i:Int)<(l.length:Int))=true)
  omega
 have hsi:=hs _ (List.getElem_mem hlt)
 conv=>whnf
 refine join_live [1,2,5,14,15,16] (σ:=Bs × Bool) (fun s=>[(7,.str s.1),(8,.bool s.2)]) (fun _=>[.box (cmdV c).cells,.row 1 (out.map strV)]) (fun s=>accM c l (i+1)=out++(if s.2=true then [s.1] else [])) ?_
 conv=>whnf
 refine ⟨?_,fun s hst=>?_⟩
 ·have hk10:c.kind=1∨c.kind=2∨c.kind=3∨c.kind=4∨c.kind=5∨c.kind=6∨c.kind=7∨c.kind=8∨c.kind=9∨c.kind=10:=by omega
  obtain ⟨ck,cw,cn⟩:=c
  dsimp only at hk10
  rcases hk10 with rfl|rfl|rfl|rfl|rfl|rfl|rfl|rfl|rfl|rfl
  ·repeat' first|(refine fun (b:Bool) hb=>?_;cases b<;>first|exact absurd hb (by decide)|exact nfl hb|exact nfr hb|skip)|fail
   refine ⟨l[i],cw,rfl,by omega,?_⟩
   skip
   refine ⟨(l[i],Lib.contains l[i] cw),(by (refine wk_auto ?_;refine Sel4.mk rfl rfl ?_ ?_<;>(repeat' first|exact True.intro|exact rfl|exact .inl rfl|exact .inr rfl|refine And.intro ?_ ?_|fail))),?_⟩
   rw [accM_each hlt (by show (1:Int)<6;decide),←ho]
   cases h:Lib.contains l[i] cw<;>simp [oneC,h]
  ·repeat' first|(refine fun (b:Bool) hb=>?_;cases b<;>first|exact absurd hb (by decide)|exact nfl hb|exact nfr hb|skip)|fail
   refine ⟨l[i],cw,rfl,by omega,?_⟩
   skip
   refine ⟨(l[i],!Lib.contains l[i] cw),(by (refine wk_auto ?_;refine Sel4.mk rfl rfl ?_ ?_<;>(repeat' first|exact True.intro|exact rfl|exact .inl rfl|exact .inr rfl|refine And.intro ?_ ?_|fail))),?_⟩
   rw [accM_each hlt (by show (2:Int)<6;decide),←ho]
   cases h:Lib.contains l[i] cw<;>simp [oneC,h]
  ·obtain ⟨x,y,hw⟩:=word2 hc rfl
   dsimp only at hw
   subst hw
   repeat' first|(refine fun (b:Bool) hb=>?_;cases b<;>first|exact absurd hb (by decide)|exact nfl hb|exact nfr hb|skip)|(refine fun (hl:_≤MAXL)=>?_)|refine And.intro (a:=_≤140737488355328) ?_ ?_|refine Opt.b ?_|fail
   ·exact Nat.le_trans hsi (by decide)
   skip
   conv=>whnf
   refine loop_live [1,2,5,8,9,14,15,16,41] (σ:=Nat × Bs) (fun s=>[(42,.int .i64 s.1),(9,.own 2)]) (fun s=>[.box (cmdV ⟨3,[x,y],cn⟩).cells,.row 1 (out.map strV),.row 1 (s.2.map byteV)]) (fun s=>s.2=(l[i].take s.1).map (fun z=>if z=x then y else z)++l[i].drop s.1∧s.1≤l[i].length) (fun s=>l[i].length-s.1) (0,l[i]) ?_
   conv=>whnf
   refine ⟨(by (refine wk_auto ?_;refine Sel4.mk rfl rfl ?_ ?_<;>(repeat' first|exact True.intro|exact rfl|exact .inl rfl|exact .inr rfl|refine And.intro ?_ ?_|fail))),⟨by simp,Nat.zero_le _⟩,fun s hs=>?_⟩
   obtain ⟨k,d⟩:=s
   obtain ⟨hd,hk⟩:=hs
   dsimp only at hd hk
   have hdl:d.length=l[i].length:=by rw [hd];simp;omega
   repeat' first|(refine fun (b:Bool) hb=>?_;cases b<;>first|exact absurd hb (by decide)|exact nfl hb|exact nfr hb|skip)|refine ⟨_,⟨rfl,rfl⟩,?_⟩|fail
   ·have hge:¬ (k:Int)<((l[i].map byteV).length:Int):=of_decide_eq_false (by assumption)
    rw [List.length_map] at hge
    have ek:k=l[i].length:=by omega
    refine ⟨d,rfl,rfl,?_⟩
    skip
    refine ⟨(d,true),(by (refine wk_auto ?_;refine Sel4.mk rfl rfl ?_ ?_<;>(repeat' first|exact True.intro|exact rfl|exact .inl rfl|exact .inr rfl|refine And.intro ?_ ?_|fail))),?_⟩
    rw [accM_each hlt (by show (3:Int)<6;decide),←ho,hd,ek]
    rw [one_3]
    simp
   have hkl:k<l[i].length:=by
    have h:=of_decide_eq_true (by assumption:decide ((k:Int)<((l[i].map byteV).length:Int))=true)
    rw [List.length_map] at h
    omega
   have hkd:k<d.length:=by omega
   have gk:(List.map byteV d)[k]?=some (byteV d[k]):=by rw [List.getElem?_map,List.getElem?_eq_getElem hkd];rfl
   have edk:d[k]=l[i][k]:=mp_eq hkl hd hkd
   have hnx:=mp_set (fun z=>if z=x then y else z) hkl
   rw [←hd,←edk] at hnx
   conv=>whnf
   refine ⟨_,⟨rfl,k,rfl,by simpa using hkd,⟨rfl,rfl⟩⟩,?_⟩
   repeat' first|exact True.intro|refine And.intro (a:=chkPast _ _ _ _ _ _ _ _) ?_ ?_|fail
   conv=>whnf
   refine ⟨_,⟨_,gk,⟨rfl,rfl⟩⟩,?_⟩
   repeat' first|exact True.intro|refine ⟨_,⟨rfl,rfl⟩,?_⟩|refine And.intro (a:=chkPast _ _ _ _ _ _ _ _) ?_ ?_|fail
   conv=>whnf
   refine ⟨_,⟨0,rfl,(by show 0<2;decide),rfl,rfl⟩,?_⟩
   repeat' first|exact True.intro|(refine fun (b:Bool) hb=>?_;cases b<;>first|exact absurd hb (by decide)|exact nfl hb|exact nfr hb|skip)|refine And.intro (a:=I64 _) ?_ ?_|refine ⟨_,⟨rfl,rfl⟩,?_⟩|refine And.intro (a:=chkPast _ _ _ _ _ _ _ _) ?_ ?_|refine ⟨_,rfl,?_,rfl,?_⟩|fail
   ·unfold I64
    dsimp only
    omega
   ·have hne:¬ ((d[k].toNat:Int)=(x.toNat:Int)):=of_decide_eq_false (by assumption)
    have hne2:¬ d[k]=x:=fun e=>hne (by rw [e])
    refine ⟨(k+1,d),(by (refine wk_auto ?_;refine Sel4.mk rfl rfl ?_ ?_<;>(repeat' first|exact True.intro|exact rfl|exact .inl rfl|exact .inr rfl|refine And.intro ?_ ?_|fail))),⟨?_,hkl⟩,?_⟩
    ·show d=_
     rw [hnx,if_neg hne2,List.set_getElem_self]
    ·show l[i].length-(k+1)<l[i].length-k
     omega
   ·show 2≤2
    decide
   have heq:((d[k].toNat:Int)=(x.toNat:Int)):=of_decide_eq_true (by assumption)
   have heq2:d[k]=x:=UInt8.toNat_inj.1 (by omega)
   rw [if_pos heq2] at hnx
   refine ⟨k,rfl,by simpa using hkd,?_⟩
   conv=>whnf
   refine ⟨by simpa using hkd,?_⟩
   repeat' first|refine And.intro (a:=I64 _) ?_ ?_|fail
   ·unfold I64
    dsimp only
    omega
   refine ⟨(k+1,d.set k y),?_,⟨?_,hkl⟩,?_⟩
   rotate_left
   ·show d.set k y=_
    rw [hnx]
   ·show l[i].length-(k+1)<l[i].length-k
    omega
   (refine wk_auto ?_;refine Sel4.mk rfl rfl ?_ ?_<;>(repeat' first|exact True.intro|exact rfl|exact .inl rfl|exact .inr rfl|refine And.intro ?_ ?_|fail))
   show Row.row 1 _=Row.row 1 _
   simp [List.map_set]
   rfl
  ·have hn1:1≤cn∧cn≤1000 := by
    unfold checkCmd useN at hc
    grind
   have hsn:0<(Lib.split l[i] [32]).length:=List.length_pos_iff.2 (split_ne l[i] [32])
   repeat' first|(refine fun (b:Bool) hb=>?_;cases b<;>first|exact absurd hb (by decide)|exact nfl hb|exact nfr hb|skip)|fail
   refine ⟨l[i],[32],rfl,⟨by omega,by decide⟩,?_⟩
   repeat' first|(refine fun (b:Bool) hb=>?_;cases b<;>first|exact absurd hb (by decide)|exact nfl hb|exact nfr hb|skip)|(refine fun (hl:_≤MAXL)=>?_)|refine And.intro (a:=I64 _) ?_ ?_|fail
   ·have hle:¬ cn≤((Lib.split l[i] [32]).length:Int):=of_decide_eq_false (by assumption)
    refine ⟨([],true),(by (refine wk_auto ?_;refine Sel4.mk rfl rfl ?_ ?_<;>(repeat' first|exact True.intro|exact rfl|exact .inl rfl|exact .inr rfl|refine And.intro ?_ ?_|fail))),?_⟩
    rw [accM_each hlt (by show (4:Int)<6;decide),←ho]
    have h2:((Lib.split l[i] [32]).length:Int)<cn:=by omega
    simp [oneC,h2]
   ·unfold I64
    dsimp only
    omega
   ·have hle:cn≤((Lib.split l[i] [32]).length:Int):=of_decide_eq_true (by assumption)
    have hj:(cn-1).toNat<(Lib.split l[i] [32]).length:=by omega
    refine ⟨(cn-1).toNat,by show cn-1=_;omega,hj,rfl,?_⟩
    skip
    refine ⟨((Lib.split l[i] [32])[(cn-1).toNat],true),(by (refine wk_auto ?_;refine Sel4.mk rfl rfl ?_ ?_<;>(repeat' first|exact True.intro|exact rfl|exact .inl rfl|exact .inr rfl|refine And.intro ?_ ?_|fail))),?_⟩
    rw [accM_each hlt (by show (4:Int)<6;decide),←ho]
    have h2:¬ ((Lib.split l[i] [32]).length:Int)<cn:=by omega
    have e:(Lib.split l[i] [32]).getD (cn-1).toNat []=(Lib.split l[i] [32])[(cn-1).toNat]:=by rw [List.getD_eq_getElem?_getD,List.getElem?_eq_getElem hj];rfl
    unfold oneC
    simp only [show ¬ (4:Int)=1 by decide,show ¬ (4:Int)=2 by decide,show ¬ (4:Int)=3 by decide,if_false,if_true,if_neg h2,e]
  ·repeat' first|(refine fun (b:Bool) hb=>?_;cases b<;>first|exact absurd hb (by decide)|exact nfl hb|exact nfr hb|skip)|(refine fun (hl:_≤MAXL)=>?_)|refine And.intro (a:=I64 _) ?_ ?_|fail
   ·unfold I64
    dsimp only
    omega
   conv=>whnf
   refine loop_live [1,2,5,7,8,14,15,16] (σ:=Int × Bs) (fun s=>[(13,.int .i64 s.1),(12,.str s.2)]) (fun _=>[.box (cmdV ⟨5,cw,cn⟩).cells,.row 1 (out.map strV)]) (fun s=>s.2=(l[i].drop (s.1+1).toNat).reverse∧-1≤s.1∧s.1<(l[i].length:Int)) (fun s=>(s.1+1).toNat) ((l[i].length:Int)-1,[]) ?_
   conv=>whnf
   refine ⟨(by (refine wk_auto ?_;refine Sel4.mk rfl rfl ?_ ?_<;>(repeat' first|exact True.intro|exact rfl|exact .inl rfl|exact .inr rfl|refine And.intro ?_ ?_|fail))),⟨by simp,by dsimp only;omega,by dsimp only;omega⟩,fun s hs=>?_⟩
   obtain ⟨k,t⟩:=s
   obtain ⟨ht,hk1,hk2⟩:=hs
   dsimp only at ht hk1 hk2
   repeat' first|(refine fun (b:Bool) hb=>?_;cases b<;>first|exact absurd hb (by decide)|exact nfl hb|exact nfr hb|skip)|refine And.intro (a:=I64 _) ?_ ?_|fail
   ·have hge:¬ (0:Int)≤k:=of_decide_eq_false (by assumption)
    refine ⟨(t,true),(by (refine wk_auto ?_;refine Sel4.mk rfl rfl ?_ ?_<;>(repeat' first|exact True.intro|exact rfl|exact .inl rfl|exact .inr rfl|refine And.intro ?_ ?_|fail))),?_⟩
    rw [accM_each hlt (by show (5:Int)<6;decide),←ho,ht,show (k+1).toNat=0 by omega,List.drop_zero]
    rw [one_5]
    rfl
   ·unfold I64
    dsimp only
    omega
   have hge:(0:Int)≤k:=of_decide_eq_true (by assumption)
   obtain ⟨j,rfl⟩:∃ j:Nat,k=(j:Int):=⟨k.toNat,by omega⟩
   have hj:j<l[i].length:=by omega
   refine ⟨j,j+1,rfl,rfl,by omega,hj,?_⟩
   have hsl:=one_slice hj
   have hnx:=turn_next hj ht
   have htl:t.length≤l[i].length:=by rw [ht];simp
   rw [hsl]
   skip
   refine ⟨by show t.length+1≤MAXL;unfold MAXL;omega,?_⟩
   repeat' first|refine And.intro (a:=I64 _) ?_ ?_|fail
   ·unfold I64
    dsimp only
    omega
   refine ⟨((j:Int)-1,t++[l[i][j]]),(by (refine wk_auto ?_;refine Sel4.mk rfl rfl ?_ ?_<;>(repeat' first|exact True.intro|exact rfl|exact .inl rfl|exact .inr rfl|refine And.intro ?_ ?_|fail))),⟨?_,by dsimp only;omega,by dsimp only;omega⟩,by dsimp only;omega⟩
   show t++[l[i][j]]=(l[i].drop ((j:Int)-1+1).toNat).reverse
   rw [show ((j:Int)-1+1).toNat=j by omega]
   exact hnx
  ·repeat' first|(refine fun (b:Bool) hb=>?_;cases b<;>first|exact absurd hb (by decide)|exact nfl hb|exact nfr hb|skip)|fail
   refine ⟨(l[i],true),(by (refine wk_auto ?_;refine Sel4.mk rfl rfl ?_ ?_<;>(repeat' first|exact True.intro|exact rfl|exact .inl rfl|exact .inr rfl|refine And.intro ?_ ?_|fail))),?_⟩
   rw [accM_6 hlt rfl,←ho]
   simp
  ·repeat' first|(refine fun (b:Bool) hb=>?_;cases b<;>first|exact absurd hb (by decide)|exact nfl hb|exact nfr hb|skip)|refine And.intro (a:=I64 _) ?_ ?_|fail
   ·unfold I64
    dsimp only
    omega
   ·have h0:¬ (i:Int)=0:=of_decide_eq_false (by assumption)
    refine ⟨i-1,by show (i:Int)-1=_;omega,by omega,rfl,?_⟩
    skip
    refine ⟨(l[i],!decide (l[i-1]=l[i])),(by (refine wk_auto ?_;refine Sel4.mk rfl rfl ?_ ?_<;>(repeat' first|exact True.intro|exact rfl|exact .inl rfl|exact .inr rfl|refine And.intro ?_ ?_|fail))),?_⟩
    rw [accM_7 hlt rfl,←ho]
    have e:l.getD (i-1) []=l[i-1]:=by rw [List.getD_eq_getElem?_getD,List.getElem?_eq_getElem (by omega)];rfl
    rw [e]
    by_cases hq:l[i-1]=l[i]
    ·rw [if_neg (by rintro (h|h);exact h0 (by omega);exact h hq)]
     simp [hq]
    ·rw [if_pos (.inr hq)]
     simp [hq]
   ·have h0:(i:Int)=0:=of_decide_eq_true (by assumption)
    skip
    refine ⟨(l[i],true),(by (refine wk_auto ?_;refine Sel4.mk rfl rfl ?_ ?_<;>(repeat' first|exact True.intro|exact rfl|exact .inl rfl|exact .inr rfl|refine And.intro ?_ ?_|fail))),?_⟩
    rw [accM_7 hlt rfl,←ho,if_pos (.inl (by omega))]
    simp
  ·repeat' first|(refine fun (b:Bool) hb=>?_;cases b<;>first|exact absurd hb (by decide)|exact nfl hb|exact nfr hb|skip)|fail
   refine ⟨(l[i],false),(by (refine wk_auto ?_;refine Sel4.mk rfl rfl ?_ ?_<;>(repeat' first|exact True.intro|exact rfl|exact .inl rfl|exact .inr rfl|refine And.intro ?_ ?_|fail))),?_⟩
   rw [accM_8 rfl,ho,accM_8 rfl]
   simp
  ·repeat' first|(refine fun (b:Bool) hb=>?_;cases b<;>first|exact absurd hb (by decide)|exact nfl hb|exact nfr hb|skip)|fail
   refine ⟨(l[i],decide ((i:Int)<cn)),(by (refine wk_auto ?_;refine Sel4.mk rfl rfl ?_ ?_<;>(repeat' first|exact True.intro|exact rfl|exact .inl rfl|exact .inr rfl|refine And.intro ?_ ?_|fail))),?_⟩
   rw [accM_9 hlt rfl,←ho]
   simp
  ·have hn0:0≤cn := by
    unfold checkCmd useN at hc
    grind
   have hn1:cn≤1000:=by
    unfold checkCmd useN at hc
    grind
   repeat' first|(refine fun (b:Bool) hb=>?_;cases b<;>first|exact absurd hb (by decide)|exact nfl hb|exact nfr hb|skip)|(refine fun (hl:_≤MAXL)=>?_)|refine And.intro (a:=I64 _) ?_ ?_|fail
   ·unfold I64
    dsimp only
    omega
   refine ⟨(l[i],decide ((l.length:Int)-cn≤(i:Int))),(by (refine wk_auto ?_;refine Sel4.mk rfl rfl ?_ ?_<;>(repeat' first|exact True.intro|exact rfl|exact .inl rfl|exact .inr rfl|refine And.intro ?_ ?_|fail))),?_⟩
   rw [accM_10 hlt rfl hn0,←ho]
   simp
 obtain ⟨s,kp⟩:=s
 dsimp only at hst
 cases kp
 ·repeat' first|(refine fun (b:Bool) hb=>?_;cases b<;>first|exact absurd hb (by decide)|exact nfl hb|exact nfr hb|skip)|refine And.intro (a:=I64 _) ?_ ?_|fail
  ·unfold I64
   dsimp only
   omega
  refine ⟨(i+1,out),(by (refine wk_auto ?_;refine Sel4.mk rfl rfl ?_ ?_<;>(repeat' first|exact True.intro|exact rfl|exact .inl rfl|exact .inr rfl|refine And.intro ?_ ?_|fail))),⟨?_,hlt⟩,?_⟩
  ·show out=accM c l (i+1)
   rw [hst]
   simp
  ·show l.length-(i+1)<l.length-i
   omega
 ·repeat' first|(refine fun (b:Bool) hb=>?_;cases b<;>first|exact absurd hb (by decide)|exact nfl hb|exact nfr hb|skip)|refine And.intro (a:=I64 _) ?_ ?_|refine And.intro (a:=_≤140737488355328) ?_ ?_|refine ⟨rfl,?_⟩|fail
  ·show ((out.map strV).length+1)*16≤140737488355328
   rw [List.length_map]
   omega
  ·unfold I64
   dsimp only
   omega
  refine ⟨(i+1,out++[s]),?_,⟨?_,hlt⟩,?_⟩
  rotate_left
  ·show out++[s]=accM c l (i+1)
   rw [hst]
   simp
  ·show l.length-(i+1)<l.length-i
   omega
  (refine wk_auto ?_;refine Sel4.mk rfl rfl ?_ ?_<;>(repeat' first|exact True.intro|exact rfl|exact .inl rfl|exact .inr rfl|refine And.intro ?_ ?_|fail))
  show Row.row 1 _=Row.row 1 _
  simp
  rfl
end Gv
namespace Gv
variable [Glob] [Laid] [Nums]
theorem lineMadeR_ca:callable Tryz.prog 23=true:=by kernel_rfl
def lineMadeR_S:Spec:=fun args K=>∃ (F:List FileS) (f:List Bs) (c:List Cmd) (t:Bs),args=[.sl fileV F,.agg [.sl strV f,.sl cmdV c,.str t]]∧(checkFiles F=0∧checkLine ⟨f,c,t⟩=0)∧K (.tup [.sl byteV (shellLine F ⟨f,c,t⟩).1,.int .i64 (shellLine F ⟨f,c,t⟩).2])
noncomputable def lineMadeR_lib:List (Nat × Spec):=[(22,gatheredR_S),(38,linesOfR_S),(37,madeR_S),(36,bytesOfR_S)]
noncomputable def lineMadeR_fns:List (Nat × FnI):=[]
noncomputable def lineMadeR_prims:List (Nat × PSpec):=[]
theorem lineMadeR_E:EnvOK ⟨Tryz.prog,tys,lineMadeR_lib,lineMadeR_fns,lineMadeR_prims,[]⟩:=env_ok mixed0 tys0 (.cons gatheredR_ca gatheredR_ok (.cons linesOfR_ca linesOfR_ok (.cons madeR_ca madeR_ok (.cons bytesOfR_ca bytesOfR_ok .nil)))) .nil .nil rfl
theorem lineMadeR_ok:Pure Tryz.prog 23 lineMadeR_S:=by
 refine pure_by lineMadeR_E 6 (fi:={fn:=Tryz.f23,hooks:=[],draws:=[(7,[0,0,2,7,15,31])]}) ⟨Tryz.func23,by kernel_rfl,by kernel_rfl⟩ ?_
 rintro _ K ⟨F,f,c,t,rfl,⟨hF,hc⟩,hK⟩
 replace hK:∀ r,r=.tup [.sl byteV (shellLine F ⟨f,c,t⟩).1,.int .i64 (shellLine F ⟨f,c,t⟩).2]→K r:=fun r h=>h ▸ hK
 skip
 refine ⟨F,f,rfl,hF,?_⟩
 obtain ⟨g,hg⟩:∃ g,gatherS F f=g:=⟨_,rfl⟩
 rw [hg]
 repeat' first|(refine fun (b:Bool) hb=>?_;cases b<;>first|exact absurd hb (by decide)|exact nfl hb|exact nfr hb|skip)|(refine fun (hl:_≤MAXL)=>?_)|fail
 rotate_left
 ·have h0:g.2≠0:=by simpa using ‹(!decide (g.2=0))=true›
  conv=>whnf
  skip
  refine ⟨UInt8,byteV,?_⟩
  refine hK _ ?_
  unfold shellLine
  rw [if_neg (fun h=>h hc),hg,if_pos h0]
 have h0:g.2=0:=by simpa using ‹(!decide (g.2=0))=false›
 obtain ⟨k1,k2,k3,k4,k5,k6,k7⟩:=gather_val (F:=F) (f:=f) (by rw [hg];exact h0)
 have hsl:=shell_line (F:=F) hc (by show (gatherS F f).2=0;rw [hg];exact h0)
 dsimp only at hsl
 rw [hsl,k7] at hK
 rw [hg] at k6
 have hcm:=line_parts hc
 dsimp only at hcm
 have hno:∀ i,NoNl (doLines (c.take i) (allOf F f)):=fun i=>doLines_no (fun x hx=>hcm x (List.mem_of_mem_take hx)) k3
 have hln:∀ i,(put (doLines (c.take i) (allOf F f))).length≤4000:=fun i=>doLines_put4 (fun x hx=>hcm x (List.mem_of_mem_take hx)) k4
 have hli:∀ i,linesOf (put (doLines (c.take i) (allOf F f)))=doLines (c.take i) (allOf F f):=fun i=>linesOf_put (hno i)
 have hel:∀ i,∀ s∈doLines (c.take i) (allOf F f),s.length≤100000:=fun i s hs=>by
  have:=put_el hs
  have:=hln i
  omega
 conv=>whnf
 skip
 rw [k6]
 conv=>whnf
 refine loop_live [21,22] (σ:=Nat) (fun i=>[(23,.int .i64 i),(6,.sl byteV (put (doLines (c.take i) (allOf F f))))]) (fun _=>[.box [.sl strV f,.sl cmdV c,.str t]]) (fun i=>i≤c.length) (fun i=>c.length-i) 0 ?_
 conv=>whnf
 refine ⟨(by (refine wk_auto ?_;refine Sel4.mk rfl rfl ?_ ?_<;>(repeat' first|exact True.intro|exact rfl|exact .inl rfl|exact .inr rfl|refine And.intro ?_ ?_|fail))),Nat.zero_le _,fun i hi=>?_⟩
 have hl:=hli i
 have h4:=hln i
 repeat' first|exact True.intro|(refine fun (b:Bool) hb=>?_;cases b<;>first|exact absurd hb (by decide)|exact nfl hb|exact nfr hb|skip)|refine ⟨_,⟨rfl,rfl⟩,?_⟩|refine And.intro (a:=chkPast _ _ _ _ _ _ _ _) ?_ ?_|refine ⟨_,rfl,?_,rfl,?_⟩|fail
 ·have hge:¬ (i:Int)<(c.length:Int):=of_decide_eq_false (by assumption)
  have hie:i=c.length:=by omega
  subst hie
  rw [List.take_length]
  conv=>whnf
  skip
  exact hK _ rfl
 ·have h:=of_decide_eq_true (by assumption:decide ((i:Int)<(c.length:Int))=true)
  omega
 have hlt:i<c.length:=by
  have h:=of_decide_eq_true (by assumption:decide ((i:Int)<(c.length:Int))=true)
  omega
 have hel':=hel i
 have hc6:=(checkLine_ok hc).1
 dsimp only at hc6
 have h5:=hln (i+1)
 rw [doLines_take hlt] at h5
 conv=>whnf
 skip
 refine ⟨.sl strV (doLines (c.take i) (allOf F f)),⟨put (doLines (c.take i) (allOf F f)),rfl,by omega,by rw [hl],rfl⟩,?_⟩
 conv=>whnf
 skip
 refine ⟨_,⟨c[i],doLines (c.take i) (allOf F f),rfl,⟨hcm _ (List.getElem_mem _),by have:=put_len h4;omega,hel'⟩,rfl,rfl⟩,?_⟩
 conv=>whnf
 skip
 refine ⟨_,⟨linesC c[i] (doLines (c.take i) (allOf F f)),rfl,by omega,rfl,rfl⟩,?_⟩
 conv=>whnf
 repeat' first|refine And.intro (a:=I64 _) ?_ ?_|refine ⟨_,⟨rfl,rfl⟩,?_⟩|fail
 ·unfold I64;omega
 conv=>whnf
 skip
 refine ⟨i+1,?_,hlt,by omega⟩
 rw [doLines_take hlt]
 exact (by (refine wk_auto ?_;refine Sel4.mk rfl rfl ?_ ?_<;>(repeat' first|exact True.intro|exact rfl|exact .inl rfl|exact .inr rfl|refine And.intro ?_ ?_|fail)))
end Gv
namespace Gv
variable [Glob] [Laid]
theorem equalB_ca:callable Tryz.prog 24=true:=by kernel_rfl
def equalB_S:Spec:=fun args K=>∃ a b:List UInt8,args=[.sl byteV a,.sl byteV b]∧K (.bool (decide (a=b)))
noncomputable def equalB_lib:List (Nat × Spec):=[]
noncomputable def equalB_fns:List (Nat × FnI):=[]
noncomputable def equalB_prims:List (Nat × PSpec):=[]
theorem equalB_E:EnvOK ⟨Tryz.prog,tys,equalB_lib,equalB_fns,equalB_prims,[]⟩:=env_ok mixed0 tys0 .nil .nil .nil rfl
theorem equalB_ok:Pure Tryz.prog 24 equalB_S:=by
 refine pure_by equalB_E 6 (fi:={fn:=Tryz.f24,hooks:=[],draws:=[(6,[0,0,3,7,0,0,48,112,255])]}) ⟨Tryz.func24,by kernel_rfl,by kernel_rfl⟩ ?_
 rintro _ K ⟨x,y,rfl,hK⟩
 replace hK:∀ r,r=.bool (decide (x=y))→K r:=fun r h=>h ▸ hK
 repeat' first|(refine fun (b:Bool) hb=>?_;cases b<;>first|exact absurd hb (by decide)|exact nfl hb|exact nfr hb|skip)|(refine fun (hl:_≤MAXL)=>?_)|fail
 rotate_left
 ·refine hK _ ?_
  congr 1
  grind
 conv=>whnf
 refine loop_intro (σ:=Nat) (fun i=>[(0,.sl byteV x),(1,.sl byteV y),(12,.int .i64 x.length),(13,.int .i64 i),(4,.lit false)]) (fun _=>[]) (fun i=>i≤x.length∧x.take i=y.take i) (fun i=>x.length-i) 0 (wk_sel [] rfl rfl trivial ?_) ⟨Nat.zero_le _,rfl⟩ ?_
 ·(repeat' first|exact True.intro|exact rfl|exact .inl rfl|exact .inr rfl|refine And.intro ?_ ?_|fail)
 intro i ⟨hi,hI⟩
 repeat' first|(refine fun (b:Bool) hb=>?_;cases b<;>first|exact absurd hb (by decide)|exact nfl hb|exact nfr hb|skip)|refine And.intro (a:=I64 _) ?_ ?_|refine ⟨_,⟨rfl,rfl⟩,?_⟩|refine ⟨_,⟨_,rfl,?_,rfl,rfl,rfl⟩,?_⟩|fail
 ·refine hK _ ?_
  congr 1
  have e:x=y:=by
   have h1:x.take i=x:=List.take_of_length_le (by grind)
   have h2:y.take i=y:=List.take_of_length_le (by grind)
   rw [←h1,←h2,hI]
  simp [e]
 ·grind
 ·grind
 ·unfold I64;grind
 ·refine ⟨i+1,?_,⟨?_,?_⟩,?_⟩
  ·refine wk_sel [] rfl rfl trivial ?_
   (repeat' first|exact True.intro|exact rfl|exact .inl rfl|exact .inr rfl|refine And.intro ?_ ?_|fail)
  ·grind
  ·have g1:i<x.length:=by grind
   have g2:i<y.length:=by grind
   rw [List.take_succ_eq_append_getElem g1,List.take_succ_eq_append_getElem g2,hI]
   have e:x[i].toNat=y[i].toNat:=by grind
   rw [UInt8.toNat_inj.1 e]
  ·grind
 ·refine hK _ ?_
  congr 1
  grind
end Gv
namespace Gv
variable [Glob] [Laid]
theorem checkSR_ca:callable Tryz.prog 25=true:=by kernel_rfl
def checkSR_S:Spec:=fun args K=>∃ (l:List LineS),args=[.sl lineV l]∧K (.int .i64 (checkS l))
noncomputable def checkSR_lib:List (Nat × Spec):=[(19,clineR_S)]
noncomputable def checkSR_fns:List (Nat × FnI):=[]
noncomputable def checkSR_prims:List (Nat × PSpec):=[]
theorem checkSR_E:EnvOK ⟨Tryz.prog,tys,checkSR_lib,checkSR_fns,checkSR_prims,[]⟩:=env_ok mixed0 tys0 (.cons clineR_ca clineR_ok .nil) .nil .nil rfl
theorem checkSR_ok:Pure Tryz.prog 25 checkSR_S:=by
 refine pure_by checkSR_E 6 (fi:={fn:=Tryz.f25,hooks:=[],draws:=[]}) ⟨Tryz.func25,by kernel_rfl,by kernel_rfl⟩ ?_
 rintro _ K ⟨l,rfl,hK⟩
 replace hK:∀ r,r=.int .i64 (checkS l)→K r:=fun r h=>h ▸ hK
 unfold checkS at hK
 repeat' first|(refine fun (b:Bool) hb=>?_;cases b<;>first|exact absurd hb (by decide)|exact nfl hb|exact nfr hb|skip)|(refine fun (hl:_≤MAXL)=>?_)|fail
 rotate_left
 ·refine hK _ ?_
  rw [if_pos (by grind)]
 have h6:¬ 6<l.length:=by grind
 rw [if_neg h6] at hK
 conv=>whnf
 refine loop_live [9,10] (σ:=Nat) (fun i=>[(11,.int .i64 i)]) (fun _=>[]) (fun i=>i≤l.length∧linesBad (l.drop i)=linesBad l) (fun i=>l.length-i) 0 ?_
 conv=>whnf
 refine ⟨(by (refine wk_auto ?_;refine Sel4.mk rfl rfl ?_ ?_<;>(repeat' first|exact True.intro|exact rfl|exact .inl rfl|exact .inr rfl|refine And.intro ?_ ?_|fail))),⟨Nat.zero_le _,rfl⟩,fun i hi=>?_⟩
 obtain ⟨hi,hI⟩:=hi
 repeat' first|(refine fun (b:Bool) hb=>?_;cases b<;>first|exact absurd hb (by decide)|exact nfl hb|exact nfr hb|skip)|refine ⟨_,rfl,?_,rfl,?_⟩|fail
 ·refine hK _ ?_
  have e:l.drop i=[]:=List.drop_eq_nil_of_le (by grind)
  rw [e] at hI
  rw [←hI]
  rfl
 ·grind
 have hi2:i<l.length:=by grind
 have hd:l.drop i=l[i]::l.drop (i+1):=List.drop_eq_getElem_cons hi2
 rw [hd] at hI
 refine ⟨l[i],rfl,?_⟩
 have hb0:linesBad (l[i]::l.drop (i+1))=if checkLine l[i]≠0 then checkLine l[i] else linesBad (l.drop (i+1)):=rfl
 generalize checkLine l[i]=e at hb0 ⊢
 repeat' first|(refine fun (b:Bool) hb=>?_;cases b<;>first|exact absurd hb (by decide)|exact nfl hb|exact nfr hb|skip)|refine And.intro (a:=I64 _) ?_ ?_|fail
 ·(first|omega|(unfold I64;omega)|(simp only [List.length_append,List.length_map,List.length_cons,List.length_nil,Nat.mul_one,Int.ofNat_eq_natCast] at *;omega)|(dsimp only at *;omega)|(unfold I64;dsimp only at *;omega)|(unfold I64;grind)|grind)
 ·refine ⟨i+1,(by (refine wk_auto ?_;refine Sel4.mk rfl rfl ?_ ?_<;>(repeat' first|exact True.intro|exact rfl|exact .inl rfl|exact .inr rfl|refine And.intro ?_ ?_|fail))),⟨by omega,?_⟩,by omega⟩
  rw [←hI,hb0,if_neg (by grind)]
 ·refine hK _ ?_
  have he:e≠0:=by grind
  rw [←hI,hb0,if_pos he]
end Gv
namespace Gv
variable [Glob] [Laid]
def outN (n:Bs) (F:List FileS):List FileS:=F.filter fun x=>decide (x.name≠n)
theorem outN_take {n:Bs} {F:List FileS} {i:Nat} (h:i<F.length):outN n (F.take (i+1))=if F[i].name=n then outN n (F.take i) else outN n (F.take i)++[F[i]]:=by
 unfold outN
 rw [List.take_succ_eq_append_getElem h,List.filter_append]
 by_cases h1:F[i].name=n
 ·rw [if_pos h1];simp [h1]
 ·rw [if_neg h1];simp [h1]
theorem outN_le (n:Bs) (F:List FileS) (i:Nat):(outN n (F.take i)).length≤F.length:=by
 unfold outN
 have h1:=List.length_filter_le (fun x:FileS=>decide (x.name≠n)) (F.take i)
 rw [List.length_take] at h1
 omega
theorem outN_perm (n:Bs):∀ F:List FileS,(outN n F).Perm ((F.filter fun f=>decide (f.name<n))++F.filter fun f=>decide (n<f.name))
 | []=>.nil
 | f::r=>by
  have ih:=outN_perm n r
  unfold outN at ih ⊢
  rw [List.filter_cons,List.filter_cons,List.filter_cons]
  by_cases h1:f.name<n
  ·have h2:¬ f.name=n:=fun e=>bs_irrefl _ (e ▸ h1)
   have h3:¬ n<f.name:=fun h=>bs_irrefl _ (bs_trans h1 h)
   rw [if_pos (by simpa using h2),if_pos (by simpa using h1),if_neg (by simpa using h3)]
   exact ih.cons f
  ·by_cases h2:f.name=n
   ·rw [if_neg (by simpa using h2),if_neg (by simpa using h1),if_neg (by rw [h2];simp)]
    exact ih
   ·rw [if_pos (by simpa using h2),if_neg (by simpa using h1),if_pos (by simpa using bs_tri h1 h2)]
    exact (ih.cons f).trans List.perm_middle.symm
theorem put_perm2 {n b:Bs} {F:List FileS} (h:Rises F):(putGo F n b).Perm (outN n F++[⟨n,b⟩]):=by
 rw [put_filter h]
 refine List.perm_middle.trans ?_
 refine List.Perm.trans ?_ (List.perm_append_comm (l₁:=[(⟨n,b⟩:FileS)]))
 exact (outN_perm n F).symm.cons _
theorem put_len2 {n b:Bs} {F:List FileS} (h:Rises F):(outN n F++[(⟨n,b⟩:FileS)]).length=if isAt F n=true then F.length else F.length+1:=by
 rw [←(put_perm2 h).length_eq]
 unfold putGo
 split
 ·rw [List.length_set]
 ·have:=place_le F n
  simp;omega
set_option maxRecDepth 100000 in
theorem putR_less {W:World} {bb b cap n i j:Nat} {x y:Bs} (h0:W.cell? ⟨bb, 0, none⟩=some (.slice (some ⟨b, 0, none⟩) n cap)) (hi:i<n) (hj:j<n) (h1:W.cell? ⟨b, i*2, none⟩=some (.string ⟨x.toArray⟩)) (h2:W.cell? ⟨b, j*2, none⟩=some (.string ⟨y.toArray⟩)) :
  Calls Tryz.prog 93 #[.int .i64 i,.int .i64 j,.pointer (some ⟨bb,0,none⟩)] W fun e w'=>e=.returned (.bool (Op.bytesLess x y))∧∃ q,w'=W.drewN q:=by
 have mixed:=mixed0
 have t1:=Tryz.underlying22;have a1:=Tryz.isAgg22;have z1:=Tryz.sizeOf22;have v1:=Tryz.zeroValue22;have u1:=run_underlying Tryz.underlying22
 have t2:=Tryz.underlying67;have a2:=Tryz.isAgg67;have z2:=Tryz.sizeOf67;have v2:=Tryz.zeroValue67;have u2:=run_underlying Tryz.underlying67
 have t3:=Tryz.underlying3;have a3:=Tryz.isAgg3;have z3:=Tryz.sizeOf3;have v3:=Tryz.zeroValue3;have u3:=run_underlying Tryz.underlying3
 have t4:=Tryz.underlying9;have a4:=Tryz.isAgg9;have z4:=Tryz.sizeOf9;have v4:=Tryz.zeroValue9;have u4:=run_underlying Tryz.underlying9
 have t5:=Tryz.underlying4;have a5:=Tryz.isAgg4;have z5:=Tryz.sizeOf4;have v5:=Tryz.zeroValue4;have u5:=run_underlying Tryz.underlying4
 have d0:W.drew.cell? ⟨bb,0,none⟩=some (.slice (some ⟨b,0,none⟩) n cap):=h0
 have d1:W.drew.cell? ⟨b,i*2,none⟩=some (.string ⟨x.toArray⟩):=h1
 have d2:W.drew.cell? ⟨b,j*2,none⟩=some (.string ⟨y.toArray⟩):=h2
 have hi':(i:Int)<(n:Int):=by omega
 have hj':(j:Int)<(n:Int):=by omega
 go_enter Tryz.func93,Tryz.ntmps93
 go_wp2
 go_region_o
 all_goals (go_wp2;go_ret;exact ⟨rfl,1,rfl⟩)
noncomputable def putR_T:TypeInfo:=(Tryz.prog.info? 22).get (by kernel_rfl)
noncomputable def putR_TE:TypeInfo:=(Tryz.prog.info? 67).get (by kernel_rfl)
theorem putR_K (n:Nat) (h2:2≤n):Lib.swapperK n putR_TE 25=9:=by
 have a:putR_TE.hasPointers=true:=by kernel_rfl
 have b:putR_TE.bytes=40:=by kernel_rfl
 have c:(n == 0)=false:=by simp;omega
 have d:(n == 1)=false:=by simp;omega
 unfold Lib.swapperK
 rw [c,d,a,b]
 rfl
theorem wpl_call {P:Program} {w:World} {a:Act} {ops:Array Oper} {rest:List Oper} {o:Oper} {Q:Exit→Act→World→Prop} (hg:o.guard=none) {f:FuncId} {args:Array Value} (hr:(execOp a.eval o).run P w=.ok (.enter f args) w) {G:Value→World→Prop} (hc:Calls P f args w fun e w'' => ∃ u, e=.returned u∧G u w'')
  (h:∀ u w'',G u w''→wpList P ops Q rest (a.put o.dst u) w''):wpList P ops Q (o::rest) a w :=
 wpList_plain hg fun K hK=>Nx.wp (G:=G) (by rw [hr];exact hc) fun u w'' hu=>hK _ _ (h u w'' hu)
set_option maxRecDepth 100000 in
theorem putR_calls {m:Mem} {w:World} {bb b cap:Nat} {arr arr0:Array Value} {T0 T:TypeId} {fz:Nat × Nat} {G H:List FileS} (hbb:w.heap[bb]?=some (.cells arr0 T0 (0, 0))) (h0:arr0[0]?=some (.slice (some ⟨b, 0, none⟩) G.length cap)) (hb:w.heap[b]?=some (.cells arr T fz)) (hne:bb≠b) (hz:noFz arr.size fz)
  (he:ElsR m 2 (G.map fileV) arr) (hs:G.length*2≤arr.size) (hG1:1≤G.length) (hG:G.length≤12) (hH:H.Perm G) (hR:Rises H) :
  Calls Tryz.prog 92 #[.iface 22 (.slice (some ⟨b,0,none⟩) G.length cap),.func (.func 93) #[] #[.pointer (some ⟨bb,0,none⟩)]] w fun e w'=>∃ u,e=.returned u∧u=.tuple #[]∧∃ A,Bel [b] w w'∧w'.heap[b]?=some (.cells A T fz)∧A.size=arr.size∧ElsR m 2 (H.map fileV) A:=by
 by_cases h2:G.length≤1
 ·have hg1:G.length=1:=by omega
  have hHG:H=G:=by
   match G,hg1,hH with
   | [x],_,hH=>exact List.perm_singleton.1 hH
  have hK2:Lib.swapperK G.length putR_TE 25=2:=by rw [hg1];rfl
  refine (Any.sort_Slice_tiny Tryz.laysGg6 22 67 putR_T putR_TE (by kernel_rfl) (by kernel_rfl) (by kernel_rfl) (by kernel_rfl) 25 (fun _=>by kernel_rfl) (some ⟨b,0,none⟩) G.length cap h2 209 (by rw [hK2];kernel_rfl) _ _ _ w).mono fun e w' h=>?_
  obtain ⟨rfl,os,rfl⟩:=h
  subst hHG
  refine ⟨_,rfl,rfl,arr,?_,?_,rfl,he⟩
  ·exact ⟨rfl,rfl,rfl,by rw [Go.Sort.size_grow];omega,fun k hk _=>Go.Sort.heap_grow_old _ _ hk⟩
  ·rw [Go.Sort.heap_grow_old _ _ (lt_of_heap hb)];exact hb
 have h2:2≤G.length:=by omega
 have hblk:=lt_of_heap hb
 have hbbl:=lt_of_heap hbb
 have hHk:=holdsA (G:=G) hb hz he hs
 have hBs:w.cell? ⟨bb,0,none⟩=some (.slice (some ⟨b,0,none⟩) G.length cap):=by simp [World.cell?,hbb,h0]
 have hless:LessReadsK Tryz.prog 93 #[.pointer (some ⟨bb,0,none⟩)] (encA arr G.length) 2 (ltA G) b 0 G.length w:=by
  intro mm os dk hds i j hi hj
  have e:sortWorldK (encA arr G.length) 2 w b 0 mm dk os=Go.Sort.putRowK (encA arr G.length) 2 (Go.Sort.grow (Go.Sort.ahead w mm) os) b 0 dk:=by
   unfold sortWorldK;rw [Go.Sort.putRowK_grow _ _ (Go.Sort.ahead w mm) _ b 0 _ hblk]
  have hHg:Go.Sort.HoldsK (encA arr G.length) 2 (Go.Sort.grow (Go.Sort.ahead w mm) os) b 0 (Array.range G.length):=Go.Sort.holdsK_grow _ _ _ _ b 0 _ hblk (Go.Sort.holdsK_ahead _ _ _ _ _ _ _ hHk)
  have hcell:∀ t,t<G.length→(sortWorldK (encA arr G.length) 2 w b 0 mm dk os).cell? ⟨b,t*2,none⟩=some (.string ⟨(nameA G dk[t]!).toArray⟩):=fun t ht=>by
   have:=((Go.Sort.holdsK_putRowK _ _ _ b 0 (Array.range G.length) dk hHg (by simpa using hds)).cell (i:=t) (c:=0) (by omega) (by omega)).1
   rw [encA_str he,Nat.zero_add,Nat.add_zero] at this
   rw [e]
   exact this
  refine putR_less (bb:=bb) (b:=b) (cap:=cap) (n:=G.length) (x:=nameA G dk[i]!) (y:=nameA G dk[j]!) ?_ hi hj (hcell i hi) (hcell j hj)
  rw [e,Go.Sort.cell?_putRowK_other _ _ _ b 0 dk _ (by exact hne),Go.Sort.cell?_grow _ _ _ (by exact hbbl)];exact hBs
 have hcall:=Any.sort_Slice_small_cells_sorted Tryz.laysGg6 22 67 putR_T putR_TE (by kernel_rfl) (by kernel_rfl) (by kernel_rfl) (by kernel_rfl) 25 (fun _=>by kernel_rfl) (encA arr G.length) 2 (encA_len arr G.length) (by kernel_rfl) (fun _=>by kernel_rfl)
  (encA_one he) (ltA G) (ltA_swo G) 93 #[.pointer (some ⟨bb,0,none⟩)]
  (enters_of Tryz.func93 (by kernel_rfl) rfl) b 0 cap (Array.range G.length) (by simpa using h2) (by simpa using hG) 216 (by rw [putR_K _ (by simpa using h2)];kernel_rfl) false
  (fun args W=>run_callFunc_extern Tryz.func216 (by kernel_rfl) (by kernel_rfl) (by kernel_rfl) (e:=Extern.ReflectliteSwapper.swap false) (by kernel_rfl) args W) w (by simpa using hless) hHk hblk
 simp only [Array.size_range] at hcall
 refine hcall.mono fun e w' h=>?_
 obtain ⟨rfl,d',n,os,hp,hso,hw⟩:=h
 obtain ⟨k1,k2,k3⟩:=sortA_eq hp hso hH hR
 obtain ⟨g1,g2⟩:=sorted_worldA (n:=n) (os:=os) hb hw
 refine ⟨_,rfl,rfl,_,g1,g2,by simp [Go.Sort.putCells],?_⟩
 rw [←k3]
 exact els_putA he hs k1 k2
theorem putR_sort {G H:List FileS} (hG1:1≤G.length) (hG:G.length≤12) (hH:H.Perm G) (hR:Rises H) {id:Nat} {ops:Array Oper} {o1 o2 o3 o4:Oper} {aT:Array TypeId} {W:VSlots→Rows→(VSlots→Rows→Prop)→Prop} (hops:ops.toList=[o1, o2, o3, o4])
  (h1:o1.op=.load 22 (.tmp 8)) (e1:o1.dst=some 41) (g1:o1.guard=none)
  (h2:o2.op=.makeInterface 22 (.tmp 41)) (e2:o2.dst=some 42) (g2:o2.guard=none)
  (h3:o3.op=.makeFunc (.func 93) #[] #[.tmp 8]) (e3:o3.dst=some 43) (g3:o3.guard=none)
  (h4:o4.op=.call { callee:=.value (.func 92),args:=#[.tmp 42,.tmp 43],argTypes:=aT }) (e4:o4.dst=some 44) (g4:o4.guard=none)
  {L:VSlots} {K:VSlots→Rows→Prop} (h8:look L 8=some (.ptr 0 0 0)) (n1:look L 41=none) (n2:look L 42=none) (n3:look L 43=none) (n4:look L 44=none) (hK:K L [.box [.own 1],.row 2 (H.map fileV)]) :
  Borrow Tryz.prog (.region id ops false) ops.toList W L [.box [.own 1],.row 2 (G.map fileV)] K:=by
 refine .sem fun w0 m0 mb qb n a w Q hds S hQ=>?_
 obtain ⟨⟨R,m,q,s1,s2,s3,s4⟩,s5,s6⟩:=S
 have C:Cf w0 m0 _ R m q w:=⟨s1,s2⟩
 rw [hops] at hds
 have hdn:41<n∧42<n∧43<n∧44<n:=by
  simp only [dstsL,e1,e2,e3,e4,Bool.and_eq_true,Nat.blt_eq] at hds
  exact ⟨hds.1,hds.2.1,hds.2.2.1,hds.2.2.2.1⟩
 obtain ⟨bb,arr0,T0,x1,x2,-,x3,x4⟩:=C.rok.row 0 _ rfl
 obtain ⟨u0,y1,y2,y3⟩:=x4 0 (.own 1) rfl
 obtain ⟨ob,cap,c1,c2,c3,c4,c5⟩:=C.rok.row 1 _ rfl
 rw [List.length_map] at c1 c2
 obtain ⟨b,rfl⟩:∃ b,ob=some b:=by
  cases ob with
  | some b=>exact ⟨b,rfl⟩
  | none=>have:=c4 rfl;omega
 obtain ⟨arr,T,fz,a1,a2,a3,a4⟩:=c5 b rfl
 have hu0:u0=.slice (some ⟨b,0,none⟩) G.length cap:=by
  cases y3 with|own h=>rw [c1] at h;cases h;rfl
 subst hu0
 have hbb:=(C.sit.own _ _ x2).2.1
 have hbh:=(C.sit.own _ _ a1).2.1
 have hne:bb≠b:=fun e=>by
  subst e
  have:=C.rok.apart 0 1 _ _ bb rfl rfl rfl rfl (occ_one rfl x1) (occ_one rfl c1)
  omega
 have v8:a.tmps.getD 8 undef=.pointer (some ⟨bb,0,none⟩):=by
  have:=s3 8 _ h8
  generalize a.tmps.getD 8 undef=u at this
  cases this with|ptr h=>rw [x1] at h;cases h;rfl
 have hload:∀ a':Act,a'.tmps.getD 8 undef=.pointer (some ⟨bb,0,none⟩)→(execOp a'.eval o1).run Tryz.prog w=.ok (.value (.slice (some ⟨b,0,none⟩) G.length cap)) w:=fun a' ha=>by
  have f8:a'.eval (.tmp 8)=.pointer (some ⟨bb,0,none⟩):=ha
  have hag:=Tryz.isAgg22
  have hcell:w.cell? ⟨bb,0,none⟩=some (.slice (some ⟨b,0,none⟩) G.length cap):=by simp [World.cell?,hbb,y1]
  simp [execOp,h1,f8,Instr.loadAt,Instr.sureAddr,loadVar,hag,hcell,run_underlying Tryz.underlying22]
 refine wp_region_list ?_
 rw [hops]
 refine wpl_val g1 (v:=.slice (some ⟨b,0,none⟩) G.length cap) (w':=w) (hload a v8) ?_
 generalize hA:a.put o1.dst (.slice (some ⟨b,0,none⟩) G.length cap)=A
 have vA:A.tmps.getD 41 undef=.slice (some ⟨b,0,none⟩) G.length cap:=by rw [←hA,e1,put_eq (by rw [s5];exact hdn.1)]
 have vA8:A.tmps.getD 8 undef=.pointer (some ⟨bb,0,none⟩):=by rw [←hA,e1,put_ne (by decide)];exact v8
 have vAs:A.tmps.size=n:=by rw [←hA,put_size];exact s5
 refine wpl_val g2 (v:=.iface 22 (.slice (some ⟨b,0,none⟩) G.length cap)) (w':=w) ?_ ?_
 ·have f:A.eval (.tmp 41)=.slice (some ⟨b,0,none⟩) G.length cap:=vA
  simp [execOp,h2,f,Instr.makeInterface,run_underlying Tryz.underlying22]
 generalize hB:A.put o2.dst (.iface 22 (.slice (some ⟨b,0,none⟩) G.length cap))=B
 have vB:B.tmps.getD 42 undef=.iface 22 (.slice (some ⟨b,0,none⟩) G.length cap):=by rw [←hB,e2,put_eq (by rw [vAs];exact hdn.2.1)]
 have vB8:B.tmps.getD 8 undef=.pointer (some ⟨bb,0,none⟩):=by rw [←hB,e2,put_ne (by decide)];exact vA8
 have vBs:B.tmps.size=n:=by rw [←hB,put_size];exact vAs
 refine wpl_val g3 (v:=.func (.func 93) #[] #[.pointer (some ⟨bb,0,none⟩)]) (w':=w) ?_ ?_
 ·have f:B.eval (.tmp 8)=.pointer (some ⟨bb,0,none⟩):=vB8
  simp [execOp,h3,f,Instr.makeFunc]
 generalize hD:B.put o3.dst (.func (.func 93) #[] #[.pointer (some ⟨bb,0,none⟩)])=D
 have vD:D.tmps.getD 43 undef=.func (.func 93) #[] #[.pointer (some ⟨bb,0,none⟩)]:=by rw [←hD,e3,put_eq (by rw [vBs];exact hdn.2.2.1)]
 have vD2:D.tmps.getD 42 undef=.iface 22 (.slice (some ⟨b,0,none⟩) G.length cap):=by rw [←hD,e3,put_ne (by decide)];exact vB
 have vDs:D.tmps.size=n:=by rw [←hD,put_size];exact vBs
 have e84:∀ args w,(callFunc 92 args).run Tryz.prog w=.ok (.enter 92 args) w:=enters_of Tryz.func92 (by kernel_rfl) rfl
 refine wpl_call g4 (f:=92) (args:=#[.iface 22 (.slice (some ⟨b,0,none⟩) G.length cap),.func (.func 93) #[] #[.pointer (some ⟨bb,0,none⟩)]]) ?_ (putR_calls (m:=m) (H:=H) hbb y1 hbh hne a4.1 a3 (by rw [a2];omega) hG1 hG hH hR) ?_
 ·have k1:D.eval (.tmp 42)=.iface 22 (.slice (some ⟨b,0,none⟩) G.length cap):=vD2
  have k2:D.eval (.tmp 43)=.func (.func 93) #[] #[.pointer (some ⟨bb,0,none⟩)]:=vD
  have k3:D.eval (.func 92)=.func (.func 92) #[] #[]:=rfl
  simp [execOp,h4,resolve,Deferred.ofValue,invoke,k1,k2,k3,e84]
 rintro u w2 ⟨rfl,A',hbel,hh,hsz,hels⟩
 have hlH:H.length=G.length:=hH.length_eq
 have C2:=C.store (r:=1) (x:=.row 2 (G.map fileV)) (y:=.row 2 (H.map fileV)) rfl rfl c1 a1 hbel hh ⟨some b,cap,by rw [List.length_map,hlH];exact c1,by rw [List.length_map,hlH];exact c2,c3,(fun h=>by cases h),fun b' hb'=>by
  cases hb'
  exact ⟨A',T,fz,by simp [Mem.put],by rw [hsz];exact a2,hels,by rw [hsz];exact a4⟩⟩
 refine hQ L _ _ w2 hK ⟨⟨_,m,q,C2.sit,C2.rok,fun t v ht=>?_,s4⟩,?_,?_⟩
 ·have t1:41≠t:=fun h=>by rw [←h,n1] at ht;cases ht
  have t2:42≠t:=fun h=>by rw [←h,n2] at ht;cases ht
  have t3:43≠t:=fun h=>by rw [←h,n3] at ht;cases ht
  have t4:44≠t:=fun h=>by rw [←h,n4] at ht;cases ht
  rw [e4,put_ne t4,←hD,e3,put_ne t3,←hB,e2,put_ne t2,←hA,e1,put_ne t1]
  exact s3 t v ht
 ·rw [put_size,vDs]
 ·rw [put_defers,←hD,put_defers,←hB,put_defers,←hA,put_defers];exact s6
theorem putR_ca:callable Tryz.prog 26=true:=by kernel_rfl
def putR_S:Spec:=fun args K=>∃ (F:List FileS) (n b:Bs),args=[.sl fileV F,.str n,.sl byteV b]∧checkFiles F=0∧K (.tup [.sl fileV (putS F n b).1,.int .i64 (putS F n b).2])
noncomputable def putR_lib:List (Nat × Spec):=[(33,isWordR_S)]
noncomputable def putR_fns:List (Nat × FnI):=[]
noncomputable def putR_prims:List (Nat × PSpec):=[]
theorem putR_E:EnvOK ⟨Tryz.prog,tys,putR_lib,putR_fns,putR_prims,[]⟩:=env_ok mixed0 tys0 (.cons isWordR_ca isWordR_ok .nil) .nil .nil rfl
theorem putR_ok:Pure Tryz.prog 26 putR_S:=by
 refine pure_by putR_E 6 (fi:={fn:=Tryz.f26,hooks:=[15,100015],draws:=[]}) ⟨Tryz.func26,by kernel_rfl,by kernel_rfl⟩ ?_
 rintro _ K ⟨F,n,b,rfl,hF,hK⟩
 replace hK:∀ r,r=.tup [.sl fileV (putS F n b).1,.int .i64 (putS F n b).2]→K r:=fun r h=>h ▸ hK
 obtain ⟨f1,f2,f3⟩:=files_iff.1 hF
 refine ⟨n,rfl,?_⟩
 repeat' first|(refine fun (b:Bool) hb=>?_;cases b<;>first|exact absurd hb (by decide)|exact nfl hb|exact nfr hb|skip)|(refine fun (hl:_≤MAXL)=>?_)|fail
 rotate_left
 ·have h2:4000<b.length := by
   have h:=of_decide_eq_true (by assumption:decide (4000<(b.length:Int))=true)
   omega
  have h1:isWord n=true:=by simpa using ‹(!isWord n)=false›
  conv=>whnf
  skip
  refine ⟨FileS,fileV,?_⟩
  refine hK _ ?_
  unfold putS
  rw [if_neg (fun h=>h hF),if_neg (by rw [h1];decide),if_pos h2]
 ·have h1:isWord n=false:=by simpa using ‹(!isWord n)=true›
  conv=>whnf
  skip
  refine ⟨FileS,fileV,?_⟩
  refine hK _ ?_
  unfold putS
  rw [if_neg (fun h=>h hF),if_pos h1]
 have h1:isWord n=true:=by simpa using ‹(!isWord n)=false›
 have h2:¬ 4000<b.length:=by
  have h:=of_decide_eq_false (by assumption:decide (4000<(b.length:Int))=false)
  omega
 conv=>whnf
 skip
 conv=>whnf
 refine loop_live [1,2,8,17,18] (σ:=Nat) (fun i=>[(19,.int .i64 i)]) (fun i=>[.box [.own 1],.row 2 ((outN n (F.take i)).map fileV)]) (fun i=>i≤F.length) (fun i=>F.length-i) 0 ?_
 conv=>whnf
 refine ⟨(by (refine wk_sel [some 0,none] rfl rfl ?_ ?_<;>(repeat' first|exact True.intro|exact rfl|exact .inl rfl|exact .inr rfl|refine And.intro ?_ ?_|fail))),Nat.zero_le _,fun i hi=>?_⟩
 repeat' first|(refine fun (b:Bool) hb=>?_;cases b<;>first|exact absurd hb (by decide)|exact nfl hb|exact nfr hb|skip)|refine And.intro (a:=I64 _) ?_ ?_|refine And.intro (a:=_≤140737488355328) ?_ ?_|refine ⟨_,rfl,?_,rfl,?_⟩|refine ⟨rfl,?_⟩|fail
 ·show (((outN n (F.take i)).map fileV).length+1)*40≤140737488355328
  have:=outN_le n F i
  rw [List.length_map];omega
 ·have hge:=of_decide_eq_false (by assumption:decide ((i:Int)<(F.length:Int))=false)
  have hie:i=F.length:=by omega
  subst hie
  rw [List.take_length]
  have hlen:=put_len2 (n:=n) (b:=b) f3
  have hpm:=put_perm2 (n:=n) (b:=b) f3
  have hmap:(outN n F).map fileV++[V.agg [V.str n,V.sl byteV b]]=(outN n F++[(⟨n,b⟩:FileS)]).map fileV:=by rw [List.map_append];rfl
  have hgo:=rises_put (n:=n) (b:=b) f3
  have hpos:1≤(outN n F++[(⟨n,b⟩:FileS)]).length:=by simp
  have hput:12<(outN n F++[(⟨n,b⟩:FileS)]).length→putS F n b=([],2):=fun h=>by
   rw [hlen] at h
   unfold putS
   rw [if_neg (fun h=>h hF),if_neg (by rw [h1];decide),if_neg h2,if_pos]
   split at h
   ·omega
   ·rename_i h3
    exact ⟨by simpa using h3,by omega⟩
  have hput2:¬ 12<(outN n F++[(⟨n,b⟩:FileS)]).length→putS F n b=(putGo F n b,0):=fun h=>by
   rw [hlen] at h
   unfold putS
   rw [if_neg (fun h=>h hF),if_neg (by rw [h1];decide),if_neg h2,if_neg]
   rintro ⟨h3,h4⟩
   rw [if_neg (by rw [h3];decide)] at h
   omega
  generalize outN n F++[(⟨n,b⟩:FileS)]=H at hlen hpm hmap hpos hput hput2
  conv=>whnf
  refine join_live [8] (σ:=Unit) (fun _=>[(8,.ptr 0 0 0)]) (fun _=>[.box [.own 1],.row 2 (H.map fileV)]) (fun _=>¬ 12<H.length) ?_
  conv=>whnf
  refine ⟨?_,fun _ h12=>?_⟩
  ·conv=>whnf
   repeat' first|(refine fun (b:Bool) hb=>?_;cases b<;>first|exact absurd hb (by decide)|exact nfl hb|exact nfr hb|skip)|(refine fun (hl:_≤MAXL)=>?_)|fail
   ·have h:=of_decide_eq_false (by assumption:decide ((12:Int)<(((outN n F).map fileV++[V.agg [V.str n,V.sl byteV b]]).length:Int))=false)
    rw [hmap,List.length_map] at h
    conv=>whnf
    skip
    refine ⟨(),?_,by omega⟩
    rw [hmap]
    exact (by (refine wk_auto ?_;refine Sel4.mk rfl rfl ?_ ?_<;>(repeat' first|exact True.intro|exact rfl|exact .inl rfl|exact .inr rfl|refine And.intro ?_ ?_|fail)))
   ·have h:=of_decide_eq_true (by assumption:decide ((12:Int)<(((outN n F).map fileV++[V.agg [V.str n,V.sl byteV b]]).length:Int))=true)
    rw [hmap,List.length_map] at h
    conv=>whnf
    skip
    refine ⟨FileS,fileV,?_⟩
    refine hK _ ?_
    rw [hput (by omega)]
  have hput:=hput2 h12
  conv=>whnf
  refine putR_sort hpos (by omega) hpm hgo rfl rfl rfl rfl rfl rfl rfl rfl rfl rfl rfl rfl rfl rfl rfl rfl rfl rfl ?_
  conv=>whnf
  repeat' first|refine ⟨_,_,_,LeL.refl _,?_⟩|fail
  conv=>whnf
  refine hK _ ?_
  rw [hput]
 ·have h:=of_decide_eq_true (by assumption:decide ((i:Int)<(F.length:Int))=true)
  omega
 ·unfold I64;omega
 ·have hlt:i<F.length := by
   have h:=of_decide_eq_true (by assumption:decide ((i:Int)<(F.length:Int))=true)
   omega
  have hn:F[i].name=n:=by simpa using ‹(!decide (F[i].name=n))=false›
  conv=>whnf
  skip
  refine ⟨i+1,?_,hlt,by omega⟩
  rw [outN_take hlt,if_pos hn]
  exact (by (refine wk_auto ?_;refine Sel4.mk rfl rfl ?_ ?_<;>(repeat' first|exact True.intro|exact rfl|exact .inl rfl|exact .inr rfl|refine And.intro ?_ ?_|fail)))
 ·show (((outN n (F.take i)).map fileV).length+1)*40≤140737488355328
  have:=outN_le n F i
  rw [List.length_map];omega
 ·unfold I64;omega
 ·have hlt:i<F.length := by
   have h:=of_decide_eq_true (by assumption:decide ((i:Int)<(F.length:Int))=true)
   omega
  have hn:¬ F[i].name=n:=by simpa using ‹(!decide (F[i].name=n))=true›
  conv=>whnf
  skip
  refine ⟨i+1,?_,hlt,by omega⟩
  rw [outN_take hlt,if_neg hn,List.map_append]
  exact (by (refine wk_auto ?_;refine Sel4.mk rfl rfl ?_ ?_<;>(repeat' first|exact True.intro|exact rfl|exact .inl rfl|exact .inr rfl|refine And.intro ?_ ?_|fail)))
end Gv
namespace Gv
variable [Glob] [Laid]
theorem files_eq {a b:FileS} (h1:a.name=b.name) (h2:a.b=b.b):a=b:=by
 cases a;cases b;simp only at h1 h2;subst h1;subst h2;rfl
theorem sameF_ca:callable Tryz.prog 27=true:=by kernel_rfl
def sameF_S:Spec:=fun args K=>∃ a b:List FileS,args=[.sl fileV a,.sl fileV b]∧K (.bool (decide (a=b)))
noncomputable def sameF_lib:List (Nat × Spec):=[(24,equalB_S)]
noncomputable def sameF_fns:List (Nat × FnI):=[(94,{fn:=Tryz.f94,hooks:=[],draws:=[]}),(95,{fn:=Tryz.f95,hooks:=[],draws:=[]})]
noncomputable def sameF_prims:List (Nat × PSpec):=[]
theorem sameF_E:EnvOK ⟨Tryz.prog,tys,sameF_lib,sameF_fns,sameF_prims,[]⟩:=env_ok mixed0 tys0 (.cons equalB_ca equalB_ok .nil) (.cons (by kernel_rfl) ⟨Tryz.func94,by kernel_rfl,by kernel_rfl⟩ (.cons (by kernel_rfl) ⟨Tryz.func95,by kernel_rfl,by kernel_rfl⟩ .nil)) .nil rfl
theorem sameF_ok:Pure Tryz.prog 27 sameF_S:=by
 refine pure_by sameF_E 6 (fi:={fn:=Tryz.f27,hooks:=[],draws:=[]}) ⟨Tryz.func27,by kernel_rfl,by kernel_rfl⟩ ?_
 rintro _ K ⟨x,y,rfl,hK⟩
 replace hK:∀ r,r=.bool (decide (x=y))→K r:=fun r h=>h ▸ hK
 repeat' first|(refine fun (b:Bool) hb=>?_;cases b<;>first|exact absurd hb (by decide)|exact nfl hb|exact nfr hb|skip)|(refine fun (hl:_≤MAXL)=>?_)|fail
 rotate_left
 ·refine hK _ ?_
  congr 1
  grind
 conv=>whnf
 refine loop_live [1,2,15,16] (σ:=Nat) (fun i=>[(17,.int .i64 i)]) (fun _=>[]) (fun i=>i≤x.length∧x.take i=y.take i) (fun i=>x.length-i) 0 ?_
 conv=>whnf
 refine ⟨(by (refine wk_auto ?_;refine Sel4.mk rfl rfl ?_ ?_<;>(repeat' first|exact True.intro|exact rfl|exact .inl rfl|exact .inr rfl|refine And.intro ?_ ?_|fail))),⟨Nat.zero_le _,rfl⟩,?_⟩
 intro i ⟨hi,hI⟩
 have hlen:x.length=y.length:=by
  have h:(!decide ((x.length:Int)=(y.length:Int)))=false:=by assumption
  have h2:(x.length:Int)=(y.length:Int):=by simpa using h
  omega
 repeat' first|(refine fun (b:Bool) hb=>?_;cases b<;>first|exact absurd hb (by decide)|exact nfl hb|exact nfr hb|skip)|refine ⟨_,rfl,?_,rfl,?_⟩|fail
 ·have hix:i=x.length := by
   have h:=of_decide_eq_false (by assumption:decide ((i:Int)<(x.length:Int))=false)
   omega
  subst hix
  rw [List.take_length,hlen,List.take_length] at hI
  conv=>whnf
  skip
  refine hK _ ?_
  congr 1
  exact (decide_eq_true hI).symm
 all_goals
  have g1:i<x.length:=by
   have h:=of_decide_eq_true (by assumption:decide ((i:Int)<(x.length:Int))=true)
   omega
  have g2:i<y.length:=by omega
 ·exact g1
 ·exact g2
 ·conv=>whnf
  skip
  refine hK _ ?_
  congr 1
  have hn:¬ x[i].name=y[i].name:=of_decide_eq_false (by assumption)
  exact (decide_eq_false fun h=>hn (by subst h;rfl)).symm
 ·have hn:x[i].name=y[i].name:=of_decide_eq_true (by assumption)
  conv=>whnf
  skip
  refine ⟨x[i].b,y[i].b,rfl,?_⟩
  repeat' first|(refine fun (b:Bool) hb=>?_;cases b<;>first|exact absurd hb (by decide)|exact nfl hb|exact nfr hb|skip)|refine And.intro (a:=I64 _) ?_ ?_|fail
  ·have hm:x.length≤MAXL:=by assumption
   unfold I64;unfold MAXL at hm;omega
  ·conv=>whnf
   skip
   have hbb:x[i].b=y[i].b:=by simpa using ‹(!decide (x[i].b=y[i].b))=false›
   refine ⟨i+1,(by (refine wk_auto ?_;refine Sel4.mk rfl rfl ?_ ?_<;>(repeat' first|exact True.intro|exact rfl|exact .inl rfl|exact .inr rfl|refine And.intro ?_ ?_|fail))),⟨g1,?_⟩,by omega⟩
   rw [List.take_succ_eq_append_getElem g1,List.take_succ_eq_append_getElem g2,hI,files_eq hn hbb]
  ·have hbb:¬ x[i].b=y[i].b:=by simpa using ‹(!decide (x[i].b=y[i].b))=true›
   conv=>whnf
   skip
   refine hK _ ?_
   congr 1
   exact (decide_eq_false fun h=>hbb (by subst h;rfl)).symm
end Gv
namespace Gv
variable [Glob] [Laid] [Nums] [Errs]
def lim1 (wd b:Int):Int:=if b=0∧(wd<1∨5<wd) then 3 else b
def lim2 (F:List FileS) (f:List Bs) (b:Int):Int:=if b=0 then (gatherS F f).2 else b
def lim3 (rm b:Int):Int:=if b=0∧(rm<1∨1000<rm) then 3 else b
def lim4 (n:Nat) (b:Int):Int:=if b=0∧40000<n then 2 else b
def limB (F:List FileS) (f:List Bs) (wd rm:Int) (n:Nat) (b:Int):Int:=lim4 n (lim3 rm (lim2 F f (lim1 wd b)))
theorem limF_ca:callable Tryz.prog 17=true:=by kernel_rfl
def limF_P:PSpec:=fun args rows K=>∃ (F:List FileS) (f:List Bs) (c:List Cmd) (t:Bs) (wd rm b:Int) (ps:List Int),args=[.int .i64 b,.fn 20 [.ptr 0 0 0,.ptr 1 0 0],.ptr 2 0 0,.ptr 3 0 0,.ptr 4 0 0]∧rows=[.box [.sl fileV F],.box [.sl strV f,.sl cmdV c,.str t],.box [.int .i64 wd],.box [.int .i64 rm],.box [.sl intV ps]]∧K (.int .i64 (limB F f wd rm ps.length b)) [.box [.sl fileV F],.box [.sl strV f,.sl cmdV c,.str t],.box [.int .i64 wd],.box [.int .i64 rm],.box [.sl intV ps]]
noncomputable def limF_lib:List (Nat × Spec):=[(21,cfilesR_S),(22,gatheredR_S)]
noncomputable def limF_fns:List (Nat × FnI):=[(20,{fn:=Tryz.f20,hooks:=[],draws:=[]})]
noncomputable def limF_prims:List (Nat × PSpec):=[]
theorem limF_E:EnvOK ⟨Tryz.prog,tys,limF_lib,limF_fns,limF_prims,[]⟩:=env_ok mixed0 tys0 (.cons cfilesR_ca cfilesR_ok (.cons gatheredR_ca gatheredR_ok .nil)) (.cons (by kernel_rfl) ⟨Tryz.func20,by kernel_rfl,by kernel_rfl⟩ .nil) .nil rfl
theorem limF_prim:PrimOK Tryz.prog 17 limF_P:=by
 refine prim_by limF_E 6 limF_ca (fi:={fn:=Tryz.f17,hooks:=[3,5,7,9],draws:=[]}) ⟨Tryz.func17,by kernel_rfl,by kernel_rfl⟩ ?_
 rintro args rows K ⟨F,f,c,t,wd,rm,b,ps,rfl,rfl,hK⟩
 skip
 conv=>whnf
 obtain ⟨b1,hb1⟩:∃ b1,lim1 wd b=b1:=⟨_,rfl⟩
 obtain ⟨b2,hb2⟩:∃ b2,lim2 F f b1=b2:=⟨_,rfl⟩
 obtain ⟨b3,hb3⟩:∃ b3,lim3 rm b2=b3:=⟨_,rfl⟩
 obtain ⟨b4,hb4⟩:∃ b4,lim4 ps.length b3=b4:=⟨_,rfl⟩
 have hB:limB F f wd rm ps.length b=b4:=by unfold limB;rw [hb1,hb2,hb3,hb4]
 rw [hB] at hK
 refine join_live [1,3,4] (σ:=Unit) (fun _=>[(0,.int .i64 b1)]) (fun _=>[.box [.sl fileV F],.box [.sl strV f,.sl cmdV c,.str t],.box [.int .i64 wd],.box [.int .i64 rm],.box [.sl intV ps]]) (fun _=>True) ?_
 conv=>whnf
 refine ⟨?_,fun _ _=>?_⟩
 ·conv=>whnf
  unfold lim1 at hb1
  by_cases h:b=0∧(wd<1∨5<wd)
  ·rw [if_pos h] at hb1
   subst hb1
   repeat' first|(refine fun (b:Bool) hb=>?_;cases b<;>first|exact absurd hb (by decide)|exact nfl hb|exact nfr hb|skip)|fail
   all_goals
    conv=>whnf
    skip
    first
     | (exfalso;clear hK;simp_all;done)
     | (exfalso;clear hK;simp only [decide_eq_true_eq,decide_eq_false_iff_not] at *;omega)
     | exact ⟨(),(by (refine wk_auto ?_;refine Sel4.mk rfl rfl ?_ ?_<;>(repeat' first|exact True.intro|exact rfl|exact .inl rfl|exact .inr rfl|refine And.intro ?_ ?_|fail))),trivial⟩
  ·rw [if_neg h] at hb1
   subst hb1
   repeat' first|(refine fun (b:Bool) hb=>?_;cases b<;>first|exact absurd hb (by decide)|exact nfl hb|exact nfr hb|skip)|fail
   all_goals
    conv=>whnf
    skip
    first
     | (exfalso;clear hK;simp_all;done)
     | (exfalso;clear hK;simp only [decide_eq_true_eq,decide_eq_false_iff_not] at *;omega)
     | exact ⟨(),(by (refine wk_auto ?_;refine Sel4.mk rfl rfl ?_ ?_<;>(repeat' first|exact True.intro|exact rfl|exact .inl rfl|exact .inr rfl|refine And.intro ?_ ?_|fail))),trivial⟩
 refine join_live [3,4] (σ:=Unit) (fun _=>[(0,.int .i64 b2)]) (fun _=>[.box [.sl fileV F],.box [.sl strV f,.sl cmdV c,.str t],.box [.int .i64 wd],.box [.int .i64 rm],.box [.sl intV ps]]) (fun _=>True) ?_
 conv=>whnf
 refine ⟨?_,fun _ _=>?_⟩
 ·conv=>whnf
  unfold lim2 at hb2
  by_cases h:b1=0
  ·rw [if_pos h] at hb2
   subst h
   repeat' first|(refine fun (b:Bool) hb=>?_;cases b<;>first|exact absurd hb (by decide)|exact nfl hb|exact nfr hb|skip)|fail
   all_goals first|(simp at hb;done)|skip
   conv=>whnf
   skip
   refine ⟨F,rfl,?_⟩
   repeat' first|(refine fun (b:Bool) hb=>?_;cases b<;>first|exact absurd hb (by decide)|exact nfl hb|exact nfr hb|skip)|fail
   rotate_left
   ·have h1:checkFiles F≠0:=by simpa using ‹(!decide (checkFiles F=0))=true›
    have e:(gatherS F f).2=checkFiles F:=by unfold gatherS;rw [if_pos h1]
    rw [e] at hb2
    subst hb2
    conv=>whnf
    skip
    exact ⟨(),(by (refine wk_auto ?_;refine Sel4.mk rfl rfl ?_ ?_<;>(repeat' first|exact True.intro|exact rfl|exact .inl rfl|exact .inr rfl|refine And.intro ?_ ?_|fail))),trivial⟩
   have h1:checkFiles F=0:=by simpa using ‹(!decide (checkFiles F=0))=false›
   conv=>whnf
   skip
   refine ⟨F,f,rfl,h1,?_⟩
   skip
   conv=>whnf
   skip
   subst hb2
   exact ⟨(),(by (refine wk_auto ?_;refine Sel4.mk rfl rfl ?_ ?_<;>(repeat' first|exact True.intro|exact rfl|exact .inl rfl|exact .inr rfl|refine And.intro ?_ ?_|fail))),trivial⟩
  ·rw [if_neg h] at hb2
   subst hb2
   repeat' first|(refine fun (b:Bool) hb=>?_;cases b<;>first|exact absurd hb (by decide)|exact nfl hb|exact nfr hb|skip)|fail
   all_goals
    conv=>whnf
    skip
    first
     | (exfalso;clear hK;simp_all;done)
     | (exfalso;clear hK;simp only [decide_eq_true_eq,decide_eq_false_iff_not] at *;omega)
     | exact ⟨(),(by (refine wk_auto ?_;refine Sel4.mk rfl rfl ?_ ?_<;>(repeat' first|exact True.intro|exact rfl|exact .inl rfl|exact .inr rfl|refine And.intro ?_ ?_|fail))),trivial⟩
 refine join_live [4] (σ:=Unit) (fun _=>[(0,.int .i64 b3)]) (fun _=>[.box [.sl fileV F],.box [.sl strV f,.sl cmdV c,.str t],.box [.int .i64 wd],.box [.int .i64 rm],.box [.sl intV ps]]) (fun _=>True) ?_
 conv=>whnf
 refine ⟨?_,fun _ _=>?_⟩
 ·conv=>whnf
  unfold lim3 at hb3
  by_cases h:b2=0∧(rm<1∨1000<rm)
  ·rw [if_pos h] at hb3
   subst hb3
   repeat' first|(refine fun (b:Bool) hb=>?_;cases b<;>first|exact absurd hb (by decide)|exact nfl hb|exact nfr hb|skip)|fail
   all_goals
    conv=>whnf
    skip
    first
     | (exfalso;clear hK;simp_all;done)
     | (exfalso;clear hK;simp only [decide_eq_true_eq,decide_eq_false_iff_not] at *;omega)
     | exact ⟨(),(by (refine wk_auto ?_;refine Sel4.mk rfl rfl ?_ ?_<;>(repeat' first|exact True.intro|exact rfl|exact .inl rfl|exact .inr rfl|refine And.intro ?_ ?_|fail))),trivial⟩
  ·rw [if_neg h] at hb3
   subst hb3
   repeat' first|(refine fun (b:Bool) hb=>?_;cases b<;>first|exact absurd hb (by decide)|exact nfl hb|exact nfr hb|skip)|fail
   all_goals
    conv=>whnf
    skip
    first
     | (exfalso;clear hK;simp_all;done)
     | (exfalso;clear hK;simp only [decide_eq_true_eq,decide_eq_false_iff_not] at *;omega)
     | exact ⟨(),(by (refine wk_auto ?_;refine Sel4.mk rfl rfl ?_ ?_<;>(repeat' first|exact True.intro|exact rfl|exact .inl rfl|exact .inr rfl|refine And.intro ?_ ?_|fail))),trivial⟩
 refine join_live [] (σ:=Unit) (fun _=>[(0,.int .i64 b4)]) (fun _=>[.box [.sl fileV F],.box [.sl strV f,.sl cmdV c,.str t],.box [.int .i64 wd],.box [.int .i64 rm],.box [.sl intV ps]]) (fun _=>True) ?_
 conv=>whnf
 refine ⟨?_,fun _ _=>?_⟩
 ·conv=>whnf
  unfold lim4 at hb4
  by_cases h:b3=0∧40000<ps.length
  ·rw [if_pos h] at hb4
   subst hb4
   repeat' first|(refine fun (b:Bool) hb=>?_;cases b<;>first|exact absurd hb (by decide)|exact nfl hb|exact nfr hb|skip)|(refine fun (hl:_≤MAXL)=>?_)|fail
   all_goals
    conv=>whnf
    skip
    first
     | (exfalso;clear hK;simp_all;done)
     | (exfalso;clear hK;simp only [decide_eq_true_eq,decide_eq_false_iff_not] at *;omega)
     | exact ⟨(),(by (refine wk_auto ?_;refine Sel4.mk rfl rfl ?_ ?_<;>(repeat' first|exact True.intro|exact rfl|exact .inl rfl|exact .inr rfl|refine And.intro ?_ ?_|fail))),trivial⟩
  ·rw [if_neg h] at hb4
   subst hb4
   repeat' first|(refine fun (b:Bool) hb=>?_;cases b<;>first|exact absurd hb (by decide)|exact nfl hb|exact nfr hb|skip)|(refine fun (hl:_≤MAXL)=>?_)|fail
   all_goals
    conv=>whnf
    skip
    first
     | (exfalso;clear hK;simp_all;done)
     | (exfalso;clear hK;simp only [decide_eq_true_eq,decide_eq_false_iff_not] at *;omega)
     | exact ⟨(),(by (refine wk_auto ?_;refine Sel4.mk rfl rfl ?_ ?_<;>(repeat' first|exact True.intro|exact rfl|exact .inl rfl|exact .inr rfl|refine And.intro ?_ ?_|fail))),trivial⟩
 conv=>whnf
 skip
 exact hK
end Gv
namespace Gv
variable [Glob] [Laid] [Nums] [Errs]
def limV (F:List FileS) (l:LineS) (w rm:Int) (n:Nat):Int :=
 if checkLine l≠0 then checkLine l else if w<1∨5<w then 3 else if (gatherS F l.frm).2≠0 then (gatherS F l.frm).2 else if rm<1∨1000<rm then 3 else if 40000<n then 2 else 0
theorem lim_bad {F:List FileS} {l:LineS} {w rm:Int} {n:Nat} (h:limV F l w rm n≠0):driveS F l w rm n=([],limV F l w rm n):=by
 unfold driveS plan
 unfold limV at h ⊢
 by_cases h1:checkLine l≠0
 ·rw [if_pos h1,if_pos h1,if_pos h1]
 ·rw [if_neg h1,if_neg h1]
  by_cases h2:w<1∨5<w
  ·rw [if_pos h2,if_pos h2];rfl
  ·rw [if_neg h2,if_neg h2]
   dsimp only
   rw [if_neg (by decide)]
   by_cases h3:(gatherS F l.frm).2≠0
   ·rw [if_pos h3,if_pos h3]
   ·rw [if_neg h3,if_neg h3]
    by_cases h4:rm<1∨1000<rm
    ·rw [if_pos h4,if_pos h4]
    ·rw [if_neg h4,if_neg h4]
     by_cases h5:40000<n
     ·rw [if_pos h5,if_pos h5]
     ·rw [if_neg h1,if_neg h2,if_neg h3,if_neg h4,if_neg h5] at h
      exact absurd rfl h
theorem lim_fine {F:List FileS} {l:LineS} {w rm:Int} {n:Nat} (h:limV F l w rm n=0):checkFiles F=0∧checkLine l=0∧driveS F l w rm n=shellLine F l:=by
 unfold limV at h
 split at h
 ·rename_i h1;exact absurd h h1
 rename_i h1
 split at h
 ·cases h
 rename_i h2
 split at h
 ·rename_i h3;exact absurd h h3
 rename_i h3
 split at h
 ·cases h
 rename_i h4
 split at h
 ·cases h
 rename_i h5
 exact ⟨(gather_val (Decidable.not_not.1 h3)).1,Decidable.not_not.1 h1,drive_shell (by omega) (by omega) (by omega)⟩
theorem limB_eq {F:List FileS} {f:List Bs} {c:List Cmd} {t:Bs} {w rm:Int} {n:Nat}:limB F f w rm n (checkLine ⟨f,c,t⟩)=limV F ⟨f,c,t⟩ w rm n:=by
 unfold limB lim4 lim3 lim2 lim1 limV
 dsimp only
 generalize checkLine ⟨f,c,t⟩=b
 generalize (gatherS F f).2=g
 grind
theorem run_says {L:List FileS→LineS→Bs × Int} {F:List FileS} {s:List LineS} {r:List FileS × Int} (hr:runL L F s=r):r=if checkFiles F≠0 then ([],checkFiles F) else if checkS s≠0 then ([],checkS s) else runGoL L F s:=by rw [←hr];rfl
def dSays_S:Spec:=fun args K=>∃ (F:List FileS) (s:List LineS) (f:List Bs) (c:List Cmd) (t:Bs) (wd rm:Int) (ps:List Int),args=[.sl fileV F,.sl lineV s,.agg [.sl strV f,.sl cmdV c,.str t],.int .i64 wd,.int .i64 rm,.sl intV ps]∧(I64 wd∧I64 rm)∧K (.bool true)
noncomputable def dSays_lib:List (Nat × Spec):=[(14,dLine_S),(15,dRun_S),(16,drivenF_S),(19,clineR_S),(21,cfilesR_S),(22,gatheredR_S),(23,lineMadeR_S),(24,equalB_S),(25,checkSR_S),(26,putR_S),(27,sameF_S)]
noncomputable def dSays_fns:List (Nat × FnI):=[(18,{fn:=Tryz.f18,hooks:=[],draws:=[(1,[0,0,2,0,15,31])]})]
noncomputable def dSays_prims:List (Nat × PSpec):=[(17,limF_P)]
theorem dSays_E:EnvOK ⟨Tryz.prog,tys,dSays_lib,dSays_fns,dSays_prims,[]⟩:=env_ok mixed0 tys0 (.cons dLine_ca dLine_ok (.cons dRun_ca dRun_ok (.cons drivenF_ca drivenF_ok (.cons clineR_ca clineR_ok (.cons cfilesR_ca cfilesR_ok (.cons gatheredR_ca gatheredR_ok (.cons lineMadeR_ca lineMadeR_ok (.cons equalB_ca equalB_ok (.cons checkSR_ca checkSR_ok (.cons putR_ca putR_ok (.cons sameF_ca sameF_ok .nil))))))))))) (.cons (by kernel_rfl) ⟨Tryz.func18,by kernel_rfl,by kernel_rfl⟩ .nil) (.cons limF_prim .nil) rfl
theorem dSays_ok:Pure Tryz.prog 3 dSays_S:=by
 refine pure_by dSays_E 6 (fi:={fn:=Tryz.f3,hooks:=[8,13,19],draws:=[]}) ⟨Tryz.func3,by kernel_rfl,by kernel_rfl⟩ ?_
 rintro _ K ⟨F,s,f,c,t,wd,rm,ps,rfl,⟨hwd,hrm⟩,hK⟩
 replace hK:∀ r,r=.bool true→K r:=fun r h=>h ▸ hK
 obtain ⟨d,hd⟩:∃ d,driveS F ⟨f,c,t⟩ wd rm ps.length=d:=⟨_,rfl⟩
 obtain ⟨r,hr⟩:∃ r,runL (fun F x=>driveS F x wd rm ps.length) F s=r:=⟨_,rfl⟩
 skip
 refine ⟨F,f,c,t,wd,rm,ps,rfl,?_⟩
 rw [hd]
 skip
 refine ⟨F,s,wd,rm,ps,rfl,?_⟩
 rw [hr]
 repeat' first|(refine fun (b:Bool) hb=>?_;cases b<;>first|exact absurd hb (by decide)|exact nfl hb|exact nfr hb|skip)|refine ⟨rfl,?_⟩|fail
 all_goals first|(simp at hb;done)|skip
 conv=>whnf
 refine join_live [0,1,13,14,15,16,18] (σ:=Unit) (fun _=>[(19,.sl byteV d.1),(20,.int .i64 d.2)]) (fun _=>[.box [.sl strV f,.sl cmdV c,.str t],.box [.int .i64 wd],.box [.int .i64 rm],.box [.sl intV ps],.box [.fn 17 [.ptr 1 0 0,.ptr 2 0 0,.ptr 3 0 0]]]) (fun _=>True) ?_
 conv=>whnf
 refine ⟨?_,fun _ _=>?_⟩
 ·conv=>whnf
  repeat' first|exact True.intro|refine ⟨_,⟨rfl,rfl⟩,?_⟩|refine And.intro (a:=chkPast _ _ _ _ _ _ _ _) ?_ ?_|fail
  conv=>whnf
  skip
  conv=>whnf
  refine ⟨.int .i64 (checkLine ⟨f,c,t⟩),⟨⟨f,c,t⟩,rfl,rfl,rfl⟩,?_⟩
  conv=>whnf
  repeat' first|refine ⟨_,⟨rfl,rfl⟩,?_⟩|fail
  conv=>whnf
  by_cases hl:limV F ⟨f,c,t⟩ wd rm ps.length=0
  rotate_left
  ·rw [lim_bad hl] at hd
   obtain ⟨l,hl'⟩:∃ l,limV F ⟨f,c,t⟩ wd rm ps.length=l:=⟨_,rfl⟩
   rw [hl'] at hl hd
   subst hd
   refine ⟨.int .i64 l,?_⟩
   apply Exists.intro
   apply And.intro
   ·conv=>whnf
    skip
    refine ⟨F,f,c,t,wd,rm,_,ps,rfl,rfl,?_⟩
    conv=>whnf
    skip
    exact ⟨congrArg _ (limB_eq.trans hl'),rfl⟩
   conv=>whnf
   repeat' first|exact True.intro|(refine fun (b:Bool) hb=>?_;cases b<;>first|exact absurd hb (by decide)|exact nfl hb|exact nfr hb|skip)|refine ⟨_,⟨rfl,rfl⟩,?_⟩|refine And.intro (a:=chkPend _ _ _ _ _ _) ?_ ?_|fail
   all_goals first|(simp [hl] at hb;done)|skip
   conv=>whnf
   skip
   conv=>whnf
   refine ⟨(),(by (refine wk_auto ?_;refine Sel4.mk rfl rfl ?_ ?_<;>(repeat' first|exact True.intro|exact rfl|exact .inl rfl|exact .inr rfl|refine And.intro ?_ ?_|fail))),trivial⟩
  obtain ⟨k1,k2,k3⟩:=lim_fine hl
  have hs:=k3.symm.trans hd
  refine ⟨.int .i64 0,?_⟩
  apply Exists.intro
  apply And.intro
  ·conv=>whnf
   skip
   refine ⟨F,f,c,t,wd,rm,_,ps,rfl,rfl,?_⟩
   conv=>whnf
   skip
   exact ⟨congrArg _ (limB_eq.trans hl),rfl⟩
  conv=>whnf
  repeat' first|exact True.intro|(refine fun (b:Bool) hb=>?_;cases b<;>first|exact absurd hb (by decide)|exact nfl hb|exact nfr hb|skip)|refine ⟨_,⟨rfl,rfl⟩,?_⟩|refine And.intro (a:=chkPend _ _ _ _ _ _) ?_ ?_|fail
  all_goals first|(simp at hb;done)|skip
  conv=>whnf
  skip
  refine ⟨F,f,c,t,rfl,⟨k1,k2⟩,?_⟩
  rw [hs]
  conv=>whnf
  skip
  conv=>whnf
  refine ⟨(),(by (refine wk_auto ?_;refine Sel4.mk rfl rfl ?_ ?_<;>(repeat' first|exact True.intro|exact rfl|exact .inl rfl|exact .inr rfl|refine And.intro ?_ ?_|fail))),trivial⟩
 conv=>whnf
 repeat' first|(refine fun (b:Bool) hb=>?_;cases b<;>first|exact absurd hb (by decide)|exact nfl hb|exact nfr hb|skip)|fail
 all_goals first|(simp at hb;done)|skip
 conv=>whnf
 skip
 refine ⟨d.1,d.1,rfl,?_⟩
 repeat' first|(refine fun (b:Bool) hb=>?_;cases b<;>first|exact absurd hb (by decide)|exact nfl hb|exact nfr hb|skip)|fail
 all_goals first|(simp at hb;done)|skip
 conv=>whnf
 skip
 obtain ⟨w0,hw0⟩:∃ w0,(if checkFiles F≠0 then checkFiles F else checkS s)=w0:=⟨_,rfl⟩
 refine ⟨F,rfl,?_⟩
 skip
 conv=>whnf
 refine join_live [0,1,15,16,18] (σ:=Unit) (fun _=>[(21,.int .i64 w0)]) (fun _=>[.box [.sl strV f,.sl cmdV c,.str t],.box [.int .i64 wd],.box [.int .i64 rm],.box [.sl intV ps],.box [.fn 17 [.ptr 1 0 0,.ptr 2 0 0,.ptr 3 0 0]]]) (fun _=>True) ?_
 conv=>whnf
 refine ⟨?_,fun _ _=>?_⟩
 ·conv=>whnf
  by_cases hF:checkFiles F=0
  ·rw [if_neg (fun h=>h hF)] at hw0
   subst hw0
   repeat' first|(refine fun (b:Bool) hb=>?_;cases b<;>first|exact absurd hb (by decide)|exact nfl hb|exact nfr hb|skip)|fail
   all_goals first|(simp [hF] at hb;done)|skip
   conv=>whnf
   skip
   refine ⟨s,rfl,?_⟩
   skip
   conv=>whnf
   refine ⟨(),(by (refine wk_auto ?_;refine Sel4.mk rfl rfl ?_ ?_<;>(repeat' first|exact True.intro|exact rfl|exact .inl rfl|exact .inr rfl|refine And.intro ?_ ?_|fail))),trivial⟩
  ·rw [if_pos hF] at hw0
   subst hw0
   repeat' first|(refine fun (b:Bool) hb=>?_;cases b<;>first|exact absurd hb (by decide)|exact nfl hb|exact nfr hb|skip)|fail
   all_goals first|(simp [hF] at hb;done)|skip
   conv=>whnf
   skip
   refine ⟨(),(by (refine wk_auto ?_;refine Sel4.mk rfl rfl ?_ ?_<;>(repeat' first|exact True.intro|exact rfl|exact .inl rfl|exact .inr rfl|refine And.intro ?_ ?_|fail))),trivial⟩
 have hr2:=run_says hr
 conv=>whnf
 repeat' first|(refine fun (hl:_≤MAXL)=>?_)|fail
 conv=>whnf
 refine loop_live [15,16,18,72,73] (σ:=Nat × List FileS × Int) (fun z=>[(74,.int .i64 z.1),(21,.int .i64 z.2.2),(22,.sl fileV z.2.1)]) (fun _=>[.box [.sl strV f,.sl cmdV c,.str t],.box [.int .i64 wd],.box [.int .i64 rm],.box [.sl intV ps],.box [.fn 17 [.ptr 1 0 0,.ptr 2 0 0,.ptr 3 0 0]]]) (fun z=>z.1≤s.length∧(z.2.2=0→checkS s=0∧checkFiles z.2.1=0∧runGoL (fun F x=>driveS F x wd rm ps.length) z.2.1 (s.drop z.1)=r)∧(z.2.2≠0→r=([],z.2.2))) (fun z=>s.length-z.1) (0,F,w0) ?_
 conv=>whnf
 refine ⟨(by (refine wk_auto ?_;refine Sel4.mk rfl rfl ?_ ?_<;>(repeat' first|exact True.intro|exact rfl|exact .inl rfl|exact .inr rfl|refine And.intro ?_ ?_|fail))),⟨Nat.zero_le _,fun h=>?_,fun h=>?_⟩,fun z hz=>?_⟩
 ·dsimp only at h ⊢
  rw [h] at hw0
  by_cases hF:checkFiles F=0
  ·rw [if_neg (fun h=>h hF)] at hw0
   refine ⟨hw0,hF,?_⟩
   rw [hr2,if_neg (fun h=>h hF),if_neg (fun h=>h hw0)];rfl
  ·rw [if_pos hF] at hw0
   exact absurd hw0 hF
 ·dsimp only at h ⊢
  by_cases hF:checkFiles F=0
  ·rw [if_neg (fun h=>h hF)] at hw0
   rw [hr2,if_neg (fun h=>h hF),hw0,if_pos h]
  ·rw [if_pos hF] at hw0
   rw [hr2,if_pos hF,hw0]
 obtain ⟨i,G,w⟩:=z
 obtain ⟨hi,h0,h1⟩:=hz
 dsimp only at hi h0 h1
 by_cases hw:w=0
 rotate_left
 ·have e3:=h1 hw
  clear hr hr2
  subst e3
  repeat' first|(refine fun (b:Bool) hb=>?_;cases b<;>first|exact absurd hb (by decide)|exact nfl hb|exact nfr hb|skip)|(refine fun (hl:_≤MAXL)=>?_)|refine ⟨_,rfl,?_,rfl,?_⟩|fail
  all_goals first|(simp at hb;done)|exact absurd ‹(!decide (w=0))=false› (by simp [hw])|(have h:=of_decide_eq_true ‹decide ((i:Int)<(s.length:Int))=true›;show i<s.length;omega)|skip
  all_goals
   conv=>whnf
   skip
   exact hK _ rfl
 by_cases hlt:i<s.length
 rotate_left
 ·have e:s.drop i=[]:=List.drop_eq_nil_of_le (by omega)
  rw [e] at h0
  have e3:r=(G,0):=(h0 hw).2.2.symm
  clear hr hr2
  subst e3 hw
  repeat' first|(refine fun (b:Bool) hb=>?_;cases b<;>first|exact absurd hb (by decide)|exact nfl hb|exact nfr hb|skip)|refine ⟨_,rfl,?_,rfl,?_⟩|fail
  all_goals first|(simp at hb;done)|(have h:=of_decide_eq_true ‹decide ((i:Int)<(s.length:Int))=true›;exfalso;omega)|skip
  conv=>whnf
  skip
  all_goals first|(simp at hb;done)|skip
  refine ⟨G,G,rfl,?_⟩
  skip
  refine hK _ ?_
  simp
 subst hw
 obtain ⟨d1,d2,d3⟩:=h0 rfl
 rw [List.drop_eq_getElem_cons hlt,runGoL] at d3
 obtain ⟨z,hz⟩:∃ z,driveS G ⟨s[i].frm,s[i].cmds,s[i].to⟩ wd rm ps.length=z:=⟨_,rfl⟩
 obtain ⟨q,hq⟩:∃ q,putS G s[i].to z.1=q:=⟨_,rfl⟩
 have hz':driveS G s[i] wd rm ps.length=z:=hz
 rw [hz',hq] at d3
 have h6:=(checkS_of d1).1
 have f1:z.2≠0→r=([],z.2):=fun h=>by rw [if_pos h] at d3;exact d3.symm
 have f2:z.2=0→q.2=0→checkFiles q.1=0∧runGoL (fun F x=>driveS F x wd rm ps.length) q.1 (s.drop (i+1))=r:=fun h h'=>⟨(putS_ok hq h').2.2.2.2,by rw [if_neg (fun e=>e h),if_neg (fun e=>e h')] at d3;exact d3⟩
 have f3:z.2=0→q.2≠0→r=([],q.2):=fun h h'=>by rw [if_neg (fun e=>e h),if_pos h'] at d3;exact d3.symm
 repeat' first|(refine fun (b:Bool) hb=>?_;cases b<;>first|exact absurd hb (by decide)|exact nfl hb|exact nfr hb|skip)|refine ⟨_,rfl,?_,rfl,?_⟩|fail
 all_goals first|(simp at hb;done)|(have h:=of_decide_eq_false ‹decide ((i:Int)<(s.length:Int))=false›;exfalso;omega)|(show i<s.length;exact hlt)|skip
 conv=>whnf
 refine join_live [15,16,18,22,24,72,73,74] (σ:=Unit) (fun _=>[(25,.sl byteV z.1),(26,.int .i64 z.2)]) (fun _=>[.box [.sl strV f,.sl cmdV c,.str t],.box [.int .i64 wd],.box [.int .i64 rm],.box [.sl intV ps],.box [.fn 17 [.ptr 1 0 0,.ptr 2 0 0,.ptr 3 0 0]],.box [.sl strV s[i].frm,.sl cmdV s[i].cmds,.str s[i].to]]) (fun _=>True) ?_
 conv=>whnf
 refine ⟨?_,fun _ _=>?_⟩
 ·conv=>whnf
  repeat' first|exact True.intro|refine ⟨_,⟨rfl,rfl⟩,?_⟩|refine And.intro (a:=chkPast _ _ _ _ _ _ _ _) ?_ ?_|fail
  conv=>whnf
  skip
  conv=>whnf
  refine ⟨.int .i64 (checkLine ⟨s[i].frm,s[i].cmds,s[i].to⟩),⟨⟨s[i].frm,s[i].cmds,s[i].to⟩,rfl,rfl,rfl⟩,?_⟩
  conv=>whnf
  repeat' first|refine ⟨_,⟨rfl,rfl⟩,?_⟩|fail
  conv=>whnf
  by_cases hl:limV G ⟨s[i].frm,s[i].cmds,s[i].to⟩ wd rm ps.length=0
  rotate_left
  ·rw [lim_bad hl] at hz
   obtain ⟨l,hl'⟩:∃ l,limV G ⟨s[i].frm,s[i].cmds,s[i].to⟩ wd rm ps.length=l:=⟨_,rfl⟩
   rw [hl'] at hl hz
   clear hz' hq d3 f1 f2 f3
   subst hz
   refine ⟨.int .i64 l,?_⟩
   apply Exists.intro
   apply And.intro
   ·conv=>whnf
    skip
    refine ⟨G,s[i].frm,s[i].cmds,s[i].to,wd,rm,_,ps,rfl,rfl,?_⟩
    conv=>whnf
    skip
    exact ⟨congrArg _ (limB_eq.trans hl'),rfl⟩
   conv=>whnf
   repeat' first|exact True.intro|(refine fun (b:Bool) hb=>?_;cases b<;>first|exact absurd hb (by decide)|exact nfl hb|exact nfr hb|skip)|refine ⟨_,⟨rfl,rfl⟩,?_⟩|refine And.intro (a:=chkPend _ _ _ _ _ _) ?_ ?_|fail
   all_goals first|(simp [hl] at hb;done)|skip
   conv=>whnf
   skip
   conv=>whnf
   refine ⟨(),(by (refine wk_auto ?_;refine Sel4.mk rfl rfl ?_ ?_<;>(repeat' first|exact True.intro|exact rfl|exact .inl rfl|exact .inr rfl|refine And.intro ?_ ?_|fail))),trivial⟩
  obtain ⟨k1,k2,k3⟩:=lim_fine hl
  have hs:=k3.symm.trans hz
  refine ⟨.int .i64 0,?_⟩
  apply Exists.intro
  apply And.intro
  ·conv=>whnf
   skip
   refine ⟨G,s[i].frm,s[i].cmds,s[i].to,wd,rm,_,ps,rfl,rfl,?_⟩
   conv=>whnf
   skip
   exact ⟨congrArg _ (limB_eq.trans hl),rfl⟩
  conv=>whnf
  repeat' first|exact True.intro|(refine fun (b:Bool) hb=>?_;cases b<;>first|exact absurd hb (by decide)|exact nfl hb|exact nfr hb|skip)|refine ⟨_,⟨rfl,rfl⟩,?_⟩|refine And.intro (a:=chkPend _ _ _ _ _ _) ?_ ?_|fail
  all_goals first|(simp at hb;done)|skip
  conv=>whnf
  skip
  refine ⟨G,s[i].frm,s[i].cmds,s[i].to,rfl,⟨k1,k2⟩,?_⟩
  rw [hs]
  conv=>whnf
  skip
  conv=>whnf
  refine ⟨(),(by (refine wk_auto ?_;refine Sel4.mk rfl rfl ?_ ?_<;>(repeat' first|exact True.intro|exact rfl|exact .inl rfl|exact .inr rfl|refine And.intro ?_ ?_|fail))),trivial⟩
 conv=>whnf
 repeat' first|(refine fun (b:Bool) hb=>?_;cases b<;>first|exact absurd hb (by decide)|exact nfl hb|exact nfr hb|skip)|refine And.intro (a:=I64 _) ?_ ?_|fail
 ·unfold I64;dsimp only;omega
 ·have h0:z.2≠0:=by simpa using hb
  conv=>whnf
  skip
  exact ⟨(i+1,G,z.2),(by (refine wk_auto ?_;refine Sel4.mk rfl rfl ?_ ?_<;>(repeat' first|exact True.intro|exact rfl|exact .inl rfl|exact .inr rfl|refine And.intro ?_ ?_|fail))),⟨hlt,fun h=>absurd h h0,f1⟩,by show s.length-(i+1)<s.length-i;omega⟩
 ·have h0:z.2=0:=by simpa using hb
  conv=>whnf
  skip
  refine ⟨G,s[i].to,z.1,rfl,d2,?_⟩
  rw [hq]
  repeat' first|refine And.intro (a:=I64 _) ?_ ?_|fail
  ·unfold I64;dsimp only;omega
  conv=>whnf
  skip
  exact ⟨(i+1,q.1,q.2),(by (refine wk_auto ?_;refine Sel4.mk rfl rfl ?_ ?_<;>(repeat' first|exact True.intro|exact rfl|exact .inl rfl|exact .inr rfl|refine And.intro ?_ ?_|fail))),⟨hlt,fun h=>⟨d1,f2 h0 h⟩,f3 h0⟩,by show s.length-(i+1)<s.length-i;omega⟩
end Gv
namespace Gv
variable [Glob] [Laid]
theorem opn_cmd:Opn Tryz.prog 48 cmdV (fun _=>True):=⟨fun en w fuel cs d p h hw=>by
 have hl:cs.length=3:=(opn_width Tryz.underlying48 h).trans (by kernel_rfl)
 obtain ⟨k,_,f1⟩:=opn_field 0 0 1 (T:=3) Tryz.underlying48 rfl rfl rfl (by kernel_rfl) (opn_int Tryz.underlying3) h hw
 obtain ⟨s,_,f2⟩:=opn_field 1 1 1 (T:=9) Tryz.underlying48 rfl rfl rfl (by kernel_rfl) (opn_str Tryz.underlying9) h hw
 obtain ⟨n,_,f3⟩:=opn_field 2 2 1 (T:=3) Tryz.underlying48 rfl rfl rfl (by kernel_rfl) (opn_int Tryz.underlying3) h hw
 have:=Fit.cons 0 1 f1 rfl (Fit.cons 1 2 f2 rfl (Fit.cons 2 3 f3 rfl (Fit.last 3 hl)))
 rw [List.drop_zero] at this
 exact ⟨⟨k,s,n⟩,trivial,this⟩⟩
end Gv
namespace Gv
variable [Glob] [Laid]
def lineCells (l:LineS):List V:=[.sl strV l.frm,.sl cmdV l.cmds,.str l.to]
theorem opn_line:Opn Tryz.prog 27 (fun l=>.agg (lineCells l)) (fun _=>True):=⟨fun en w fuel cs d p h hw=>by
 have hl:cs.length=3:=(opn_width Tryz.underlying27 h).trans (by kernel_rfl)
 obtain ⟨k,_,f1⟩:=opn_field 0 0 1 (T:=24) Tryz.underlying27 rfl rfl rfl (by kernel_rfl) (opn_slice (k:=1) Tryz.underlying24 (by kernel_rfl) (by omega) (opn_str Tryz.underlying9)) h hw
 obtain ⟨s,_,f2⟩:=opn_field 1 1 1 (T:=25) Tryz.underlying27 rfl rfl rfl (by kernel_rfl) (opn_slice (k:=3) Tryz.underlying25 (by kernel_rfl) (by omega) opn_cmd) h hw
 obtain ⟨n,_,f3⟩:=opn_field 2 2 1 (T:=9) Tryz.underlying27 rfl rfl rfl (by kernel_rfl) (opn_str Tryz.underlying9) h hw
 have:=Fit.cons 0 1 f1 rfl (Fit.cons 1 2 f2 rfl (Fit.cons 2 3 f3 rfl (Fit.last 3 hl)))
 rw [List.drop_zero] at this
 exact ⟨⟨k,s,n⟩,trivial,this⟩⟩
end Gv
namespace Gv
variable [Glob] [Laid]
theorem opn_file:Opn Tryz.prog 67 fileV (fun _=>True):=⟨fun en w fuel cs d p h hw=>by
 have hl:cs.length=2:=(opn_width Tryz.underlying67 h).trans (by kernel_rfl)
 obtain ⟨k,_,f1⟩:=opn_field 0 0 1 (T:=9) Tryz.underlying67 rfl rfl rfl (by kernel_rfl) (opn_str Tryz.underlying9) h hw
 obtain ⟨n,_,f3⟩:=opn_field 1 1 1 (T:=29) Tryz.underlying67 rfl rfl rfl (by kernel_rfl) (opn_slice (k:=1) Tryz.underlying29 (by kernel_rfl) (by omega) (opn_byte Tryz.underlying5)) h hw
 have:=Fit.cons 0 1 f1 rfl (Fit.cons 1 2 f3 rfl (Fit.last 2 hl))
 rw [List.drop_zero] at this
 exact ⟨⟨k,n⟩,trivial,this⟩⟩
end Gv
namespace Gv
variable [Glob] [Laid] [Nums] [Errs]
def dSaysT_S:Spec:=fun args K=>∃ (F:List FileS) (s:List LineS) (l:LineS) (wd rm:Int) (ps:List Int),args=[.sl fileV F,.sl lineV s,.agg (lineCells l),.int .i64 wd,.int .i64 rm,.sl intV ps]∧(I64 wd∧I64 rm)∧K (.bool true)
theorem dSaysT_ok:Pure Tryz.prog 3 dSaysT_S:=by
 intro w m args us k a1 a2 a3 a4
 obtain ⟨F,s,l,wd,rm,ps,rfl,a5,a6⟩:=a4
 exact dSays_ok w m _ us k a1 a2 a3 ⟨F,s,l.frm,l.cmds,l.to,wd,rm,ps,rfl,a5,a6⟩
end Gv
