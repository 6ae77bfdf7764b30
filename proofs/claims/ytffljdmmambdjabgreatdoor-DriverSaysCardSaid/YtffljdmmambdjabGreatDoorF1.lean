/- What functions of the program come to, part 1: in every world; the conditions stand in each theorem. -/
import Derived.Test.YtffljdmmambdjabGreatDoorVa
import Derived.Test.YtffljdmmambdjabGreatDoorVb
import Derived.Test.YtffljdmmambdjabGreatDoorVc
import Derived.Test.YtffljdmmambdjabGreatDoorVd
import Derived.Test.YtffljdmmambdjabGreatDoorVe
import Derived.Test.YtffljdmmambdjabGreatDoorVf
import Derived.Test.YtffljdmmambdjabGreatDoorProg
import Derived.Test.YtffljdmmambdjabGreatDoorSh
set_option linter.unusedVariables false
set_option linter.unusedSectionVars false
set_option linter.unusedSimpArgs false
set_option maxHeartbeats 16000000
open Go Go.Proofs Gw Gp
namespace Gv
theorem bsp {c:Bool} {P:Bool→Prop} (h1:c=false→P false) (h2:c=true→P true) (b:Bool) (h:c=b):P b:=by cases b;exact h1 h;exact h2 h
theorem nfl {P:Prop} (h:true=false):P:=by cases h
theorem nfr {P:Prop} (h:false=true):P:=by cases h
end Gv
namespace Gv
variable [Glob]
noncomputable def tys:List (Nat × TI) := [(2, ⟨(.int .i64 0), 1, 8, false, (.int .i64)⟩),
  (3,⟨(.int .i64 0),1,8,false,(.int .i64)⟩),
  (4,⟨(.bool false),1,1,false,.bool⟩),
  (5,⟨(.int .u8 0),1,1,false,(.int .u8)⟩),
  (9,⟨(.string ⟨#[]⟩),1,16,false,.str⟩),
  (20,⟨.nilIface,1,16,false,.iface⟩),
  (22,⟨(.slice none 0 0),1,24,false,(.slice 67)⟩),
  (23,⟨(.slice none 0 0),1,24,false,(.slice 27)⟩),
  (24,⟨(.slice none 0 0),1,24,false,(.slice 9)⟩),
  (25,⟨(.slice none 0 0),1,24,false,(.slice 48)⟩),
  (27,⟨(.agg #[(.slice none 0 0),(.slice none 0 0),(.string ⟨#[]⟩)]),3,64,true,(.struct [(24,0),(25,1),(9,2)])⟩),
  (28,⟨(.slice none 0 0),1,24,false,(.slice 3)⟩),
  (29,⟨(.slice none 0 0),1,24,false,(.slice 5)⟩),
  (30,⟨(.int .i64 0),1,8,false,(.int .i64)⟩),
  (36,⟨.nilFunc,1,8,false,.other⟩),
  (37,⟨.nilFunc,1,8,false,.other⟩),
  (48,⟨(.agg #[(.int .i64 0),(.string ⟨#[]⟩),(.int .i64 0)]),3,32,true,(.struct [(3,0),(9,1),(3,2)])⟩),
  (67,⟨(.agg #[(.string ⟨#[]⟩),(.slice none 0 0)]),2,40,true,(.struct [(9,0),(29,1)])⟩),
  (70,⟨.nilFunc,1,8,false,.other⟩),
  (75,⟨.nilFunc,1,8,false,.other⟩),
  (80,⟨(.slice none 0 0),1,24,false,(.slice 29)⟩),
  (84,⟨.nilIface,1,16,false,.iface⟩),
  (92,⟨(.slice none 0 0),1,24,false,(.slice 99)⟩),
  (94,⟨(.agg #[(.slice none 0 0)]),1,24,true,(.struct [(92,0)])⟩),
  (97,⟨(.slice none 0 0),1,24,false,(.slice 173)⟩),
  (99,⟨(.agg #[(.int .i64 0),(.string ⟨#[]⟩),(.int .i64 0),(.string ⟨#[]⟩),(.int .i64 0),(.int .i64 0),(.int .i64 0),(.slice none 0 0)]),8,96,true,(.struct [(3,0),(9,1),(48,2),(3,5),(3,6),(97,7)])⟩),
  (100,⟨.nilFunc,1,8,false,.other⟩),
  (113,⟨(.slice none 0 0),1,24,false,(.slice 193)⟩),
  (114,⟨(.slice none 0 0),1,24,false,(.slice 195)⟩),
  (116,⟨(.agg #[(.slice none 0 0),(.slice none 0 0),(.slice none 0 0),(.slice none 0 0),(.slice none 0 0)]),5,120,true,(.struct [(94,0),(22,1),(113,2),(114,3),(29,4)])⟩),
  (119,⟨(.slice none 0 0),1,24,false,(.slice 30)⟩),
  (125,⟨.nilFunc,1,8,false,.other⟩),
  (127,⟨.nilFunc,1,8,false,.other⟩),
  (130,⟨(.map none),1,8,false,(.map 3 9)⟩),
  (133,⟨.nilFunc,1,8,false,.other⟩),
  (140,⟨(.pointer none),1,8,false,.other⟩),
  (142,⟨(.agg #[(.pointer none),(.slice none 0 0)]),2,32,true,(.struct [(140,0),(29,1)])⟩),
  (143,⟨(.agg #[(.string ⟨#[]⟩),(.string ⟨#[]⟩),(.string ⟨#[]⟩),(.string ⟨#[]⟩),(.string ⟨#[]⟩),(.string ⟨#[]⟩),(.string ⟨#[]⟩),(.string ⟨#[]⟩),(.string ⟨#[]⟩),(.string ⟨#[]⟩),(.string ⟨#[]⟩)]),11,176,true,(.array 11 9)⟩),
  (160,⟨.nilFunc,1,8,false,.other⟩),
  (168,⟨(.slice none 0 0),1,24,false,(.slice 24)⟩),
  (171,⟨(.slice none 0 0),1,24,false,(.slice 80)⟩),
  (173,⟨(.agg #[(.int .i64 0),(.int .i64 0)]),2,16,true,(.struct [(3,0),(3,1)])⟩),
  (177,⟨(.map none),1,8,false,(.map 3 3)⟩),
  (178,⟨(.map none),1,8,false,(.map 4 3)⟩),
  (179,⟨(.pointer none),1,8,false,.other⟩),
  (181,⟨(.agg #[(.slice none 0 0),(.slice none 0 0)]),2,48,true,(.struct [(94,0),(97,1)])⟩),
  (185,⟨(.map none),1,8,false,(.map 173 4)⟩),
  (189,⟨.nilFunc,1,8,false,.other⟩),
  (190,⟨.nilFunc,1,8,false,.other⟩),
  (193,⟨(.agg #[(.slice none 0 0),(.int .i64 0),(.bool false),(.bool false)]),4,40,true,(.struct [(29,0),(3,1),(4,2),(4,3)])⟩),
  (195,⟨(.agg #[(.slice none 0 0),(.int .i64 0),(.slice none 0 0),(.bool false),(.bool false)]),5,64,true,(.struct [(80,0),(3,1),(80,2),(4,3),(4,4)])⟩),
  (199,⟨(.pointer none),1,8,false,.other⟩),
  (209,⟨(.int .u64 0),1,8,false,(.int .u64)⟩),
  (249,⟨.nilFunc,1,8,false,.other⟩),
  (310,⟨(.pointer none),1,8,false,.other⟩),
  (314,⟨(.int .i64 0),1,8,false,(.int .i64)⟩),
  (348,⟨(.pointer none),1,8,false,.other⟩),
  (353,⟨(.int .u64 0),1,8,false,(.int .u64)⟩)]
theorem mixed0:(Tryz.prog).follows .mixedOrders=true:=by kernel_rfl
theorem tys0:TysOK Tryz.prog tys:=tys_ok (by kernel_rfl)
class Laid:Prop where
 maxlen:∀ w,Sub Glob.mem w→∃ n,w.cell? ⟨2,0,none⟩=some (.int .i64 n)
class Nums:Prop where
 pow10 : ∀ w, Sub Glob.mem w → Lib.TabIs Tryz.prog w "internal/strconv.uint64pow10" .u64 Lib.pow10Tab
class Errs:Prop where
 syn : ∀ w, Sub Glob.mem w → ∃ tp p, w.var? Tryz.prog "strconv.ErrSyntax" = some #[.iface tp p]
 rng : ∀ w, Sub Glob.mem w → ∃ tp p, w.var? Tryz.prog "strconv.ErrRange" = some #[.iface tp p]
end Gv
namespace Gv
variable [Glob] [Laid]
theorem word1_ca:callable Tryz.prog 101=true:=by kernel_rfl
def word1_S:Spec:=fun args K=>∃ (c:UInt8),args=[byteV c]∧K (.bool (!wordByte c))
noncomputable def word1_lib:List (Nat × Spec):=[]
noncomputable def word1_fns:List (Nat × FnI):=[]
noncomputable def word1_prims:List (Nat × PSpec):=[]
theorem word1_E:EnvOK ⟨Tryz.prog,tys,word1_lib,word1_fns,word1_prims,[]⟩:=env_ok mixed0 tys0 .nil .nil .nil rfl
theorem word1_ok:Pure Tryz.prog 101 word1_S:=by
 refine pure_by word1_E 6 (fi:={fn:=Tryz.f101,hooks:=[],draws:=[]}) ⟨Tryz.func101,by kernel_rfl,by kernel_rfl⟩ ?_
 rintro _ K ⟨c,rfl,hK⟩
 replace hK:∀ r,r=.bool (!wordByte c)→K r:=fun r h=>h ▸ hK
 repeat' first|(refine fun (b:Bool) hb=>?_;cases b<;>first|exact absurd hb (by decide)|exact nfl hb|exact nfr hb|skip)|fail
 all_goals (refine hK _ ?_;unfold wordByte;congr 1;grind)
end Gv
namespace Gv
variable [Glob] [Laid]
theorem word_ca:callable Tryz.prog 32=true:=by kernel_rfl
def word_S:Spec:=fun args K=>∃ (s:Bs),args=[.str s]∧K (.bool (isWord s))
noncomputable def word_lib:List (Nat × Spec):=[(101,word1_S)]
noncomputable def word_fns:List (Nat × FnI):=[(100,{fn:=Tryz.f100,hooks:=[],draws:=[]}),(162,{fn:=Tryz.f162,hooks:=[],draws:=[]})]
noncomputable def word_prims:List (Nat × PSpec):=[]
theorem word_E:EnvOK ⟨Tryz.prog,tys,word_lib,word_fns,word_prims,[]⟩:=env_ok mixed0 tys0 (.cons word1_ca word1_ok .nil) (.cons (by kernel_rfl) ⟨Tryz.func100,by kernel_rfl,by kernel_rfl⟩ (.cons (by kernel_rfl) ⟨Tryz.func162,by kernel_rfl,by kernel_rfl⟩ .nil)) .nil rfl
theorem word_ok:Pure Tryz.prog 32 word_S:=by
 refine pure_by word_E 6 (fi:={fn:=Tryz.f32,hooks:=[],draws:=[]}) ⟨Tryz.func32,by kernel_rfl,by kernel_rfl⟩ ?_
 rintro _ K ⟨s,rfl,hK⟩
 replace hK:∀ r,r=.bool (isWord s)→K r:=fun r h=>h ▸ hK
 repeat' first|(refine fun (b:Bool) hb=>?_;cases b<;>first|exact absurd hb (by decide)|exact nfl hb|exact nfr hb|skip)|(refine fun (hl:_≤MAXL)=>?_)|refine And.intro (a:=_≤140737488355328) ?_ ?_|refine Opt.a ?_|fail
 ·refine hK _ ?_
  have h:(!decide (s=[]))=false:=by assumption
  have:s=[]:=by simpa using h
  subst this;rfl
 ·refine hK _ ?_
  have h:decide ((s.length:Int)≤12)=false:=by assumption
  have h2:¬ s.length≤12:=by
   intro h3
   have:((s.length:Int)≤12):=by omega
   simp [this] at h
  simp [isWord,h2]
 ·have h:decide ((s.length:Int)≤12)=true:=by assumption
  have h2:(s.length:Int)≤12:=by simpa using h
  omega
 have hw:∃ t:Bool,isWord s=t∧t=s.all wordByte:=by
  have h:(!decide (s=[]))=true:=by assumption
  have h1:s≠[]:=by simpa using h
  have h:decide ((s.length:Int)≤12)=true:=by assumption
  have h2:(s.length:Int)≤12:=by simpa using h
  have h3:s.length≤12:=by omega
  exact ⟨s.all wordByte,by simp [isWord,h1,h3],rfl⟩
 obtain ⟨t,ht,hta⟩:=hw
 rw [ht] at hK
 conv=>whnf
 refine loop_live [0,1,7] (σ:=Nat) (fun i=>[(8,.int .i64 i)]) (fun _=>[]) (fun i=>i≤s.length∧(s.take i).all wordByte=true) (fun i=>s.length-i) 0 ?_
 conv=>whnf
 refine ⟨(by (refine wk_sel [] rfl rfl ?_ ?_<;>(repeat' first|exact True.intro|exact rfl|exact .inl rfl|exact .inr rfl|refine And.intro ?_ ?_|fail))),⟨Nat.zero_le _,rfl⟩,fun i hi=>?_⟩
 obtain ⟨hi,hI⟩:=hi
 repeat' first|(refine fun (b:Bool) hb=>?_;cases b<;>first|exact absurd hb (by decide)|exact nfl hb|exact nfr hb|skip)|refine ⟨_,rfl,?_,rfl,?_⟩|fail
 ·have e:s.take i=s:=List.take_of_length_le (by grind)
  rw [e] at hI
  refine hK _ ?_
  rw [hta,hI]
  rfl
 ·grind
 have hi2:i<s.length:=by grind
 refine ⟨s[i],rfl,?_⟩
 have hts:s.take (i+1)=s.take i++[s[i]]:=List.take_succ_eq_append_getElem hi2
 repeat' first|(refine fun (b:Bool) hb=>?_;cases b<;>first|exact absurd hb (by decide)|exact nfl hb|exact nfr hb|skip)|refine And.intro (a:=I64 _) ?_ ?_|fail
 ·(first|omega|(unfold I64;omega)|(simp only [List.length_append,List.length_map,List.length_cons,List.length_nil,Nat.mul_one,Int.ofNat_eq_natCast] at *;omega)|(dsimp only at *;omega)|(unfold I64;dsimp only at *;omega)|(unfold I64;grind)|grind)
 ·refine ⟨i+1,(by (refine wk_sel [] rfl rfl ?_ ?_<;>(repeat' first|exact True.intro|exact rfl|exact .inl rfl|exact .inr rfl|refine And.intro ?_ ?_|fail))),⟨by omega,?_⟩,by omega⟩
  rw [hts,List.all_append,hI]
  grind
 ·refine hK _ ?_
  have h1:wordByte s[i]=false:=by grind
  have h2:s.all wordByte=false:=by
   rw [List.all_eq_false]
   exact ⟨s[i],List.getElem_mem hi2,by simp [h1]⟩
  rw [hta,h2]
  simp
end Gv
namespace Gv
variable [Glob] [Laid]
theorem ccheck_ca:callable Tryz.prog 31=true:=by kernel_rfl
def ccheck_S:Spec:=fun args K=>∃ (k:Int) (s:Bs) (n:Int),args=[.agg [.int .i64 k,.str s,.int .i64 n]]∧K (.int .i64 (checkCmd ⟨k,s,n⟩))
noncomputable def ccheck_lib:List (Nat × Spec):=[(32,word_S)]
noncomputable def ccheck_fns:List (Nat × FnI):=[]
noncomputable def ccheck_prims:List (Nat × PSpec):=[]
theorem ccheck_E:EnvOK ⟨Tryz.prog,tys,ccheck_lib,ccheck_fns,ccheck_prims,[]⟩:=env_ok mixed0 tys0 (.cons word_ca word_ok .nil) .nil .nil rfl
theorem ccheck_ok:Pure Tryz.prog 31 ccheck_S:=by
 refine pure_by ccheck_E 6 (fi:={fn:=Tryz.f31,hooks:=[4,5,7,9],draws:=[]}) ⟨Tryz.func31,by kernel_rfl,by kernel_rfl⟩ ?_
 rintro _ K ⟨k,s,n,rfl,hK⟩
 replace hK:∀ r,r=.int .i64 (checkCmd ⟨k,s,n⟩)→K r:=fun r h=>h ▸ hK
 obtain ⟨uw,huw⟩:∃ b,useWord ⟨k,s,n⟩=b:=⟨_,rfl⟩
 obtain ⟨un,hun⟩:∃ b,useN ⟨k,s,n⟩=b:=⟨_,rfl⟩
 have hc:checkCmd ⟨k,s,n⟩=if k<1∨10<k then 4 else if (uw=false∧s≠[])∨(un=false∧n≠0) then 4 else if un=true∧(n<1∨1000<n) then 3 else if (uw=true∧isWord s=false)∨(k=3∧s.length≠2) then 1 else 0:=by
  unfold checkCmd
  rw [huw,hun]
 rw [hc] at hK
 clear hc
 simp only [useWord] at huw
 simp only [useN] at hun
 repeat' first|(refine fun (b:Bool) hb=>?_;cases b<;>first|exact absurd hb (by decide)|exact nfl hb|exact nfr hb|skip)|fail
 rotate_left
 ·exact hK _ (by rw [if_pos (by grind)])
 ·exact hK _ (by rw [if_pos (by grind)])
 have h1:¬ (k<1∨10<k):=by grind
 simp only [h1,if_false] at hK
 conv=>whnf
 refine join_live [1] (σ:=Bool) (fun b=>[(3,.bool b)]) (fun _=>[.box [.int .i64 k,.str s,.int .i64 n]]) (fun b=>b=uw) ?_
 conv=>whnf
 refine ⟨?_,fun b hbu=>?_⟩
 ·repeat' first|(refine fun (b:Bool) hb=>?_;cases b<;>first|exact absurd hb (by decide)|exact nfl hb|exact nfr hb|skip)|fail
  all_goals (refine ⟨_,by refine wk_sel [some 0] rfl rfl ?_ ?_<;>(repeat' first|exact True.intro|exact rfl|exact .inl rfl|exact .inr rfl|refine And.intro ?_ ?_|fail),?_⟩;rw [←huw];simp_all)
 obtain rfl:uw=b:=hbu.symm
 clear huw
 conv=>whnf
 refine join_live [1,3] (σ:=Bool) (fun b=>[(4,.bool b)]) (fun _=>[.box [.int .i64 k,.str s,.int .i64 n]]) (fun b=>b=un) ?_
 conv=>whnf
 refine ⟨?_,fun b hbu=>?_⟩
 ·repeat' first|(refine fun (b:Bool) hb=>?_;cases b<;>first|exact absurd hb (by decide)|exact nfl hb|exact nfr hb|skip)|fail
  all_goals (refine ⟨_,by refine wk_sel [some 0] rfl rfl ?_ ?_<;>(repeat' first|exact True.intro|exact rfl|exact .inl rfl|exact .inr rfl|refine And.intro ?_ ?_|fail),?_⟩;rw [←hun];simp_all)
 obtain rfl:un=b:=hbu.symm
 clear hun
 conv=>whnf
 refine join_live [1,3,4] (σ:=Unit) (fun b=>[]) (fun _=>[.box [.int .i64 k,.str s,.int .i64 n]]) (fun b=>¬ ((uw=false∧s≠[])∨(un=false∧n≠0))) ?_
 conv=>whnf
 refine ⟨?_,fun _ h2=>?_⟩
 ·repeat' first|(refine fun (b:Bool) hb=>?_;cases b<;>first|exact absurd hb (by decide)|exact nfl hb|exact nfr hb|skip)|fail
  all_goals (conv=>whnf)
  all_goals first
   | (refine ⟨(),(by (refine wk_sel [some 0] rfl rfl ?_ ?_<;>(repeat' first|exact True.intro|exact rfl|exact .inl rfl|exact .inr rfl|refine And.intro ?_ ?_|fail))),?_⟩;simp_all;done)
   | (refine hK _ ?_;rw [if_pos];simp_all;done)
 simp only [h2,if_false] at hK
 conv=>whnf
 refine join_live [1,3] (σ:=Unit) (fun b=>[]) (fun _=>[.box [.int .i64 k,.str s,.int .i64 n]]) (fun b=>¬ (un=true∧(n<1∨1000<n))) ?_
 conv=>whnf
 refine ⟨?_,fun _ h3=>?_⟩
 ·repeat' first|(refine fun (b:Bool) hb=>?_;cases b<;>first|exact absurd hb (by decide)|exact nfl hb|exact nfr hb|skip)|fail
  all_goals (conv=>whnf)
  all_goals first
   | (refine ⟨(),(by (refine wk_sel [some 0] rfl rfl ?_ ?_<;>(repeat' first|exact True.intro|exact rfl|exact .inl rfl|exact .inr rfl|refine And.intro ?_ ?_|fail))),?_⟩;simp_all;done)
   | (refine hK _ ?_;rw [if_pos];simp_all;done)
 simp only [h3,if_false] at hK
 repeat' first|(refine fun (b:Bool) hb=>?_;cases b<;>first|exact absurd hb (by decide)|exact nfl hb|exact nfr hb|skip)|(refine fun (hl:_≤MAXL)=>?_)|fail
 all_goals (conv=>whnf)
 any_goals first
     | (refine hK _ ?_;rw [if_pos];simp_all;done)
     | (refine hK _ ?_;rw [if_neg];simp_all;done)
 refine ⟨s,rfl,?_⟩
 repeat' first|(refine fun (b:Bool) hb=>?_;cases b<;>first|exact absurd hb (by decide)|exact nfl hb|exact nfr hb|skip)|(refine fun (hl:_≤MAXL)=>?_)|fail
 all_goals (conv=>whnf)
 any_goals first
     | (refine hK _ ?_;rw [if_pos];simp_all;done)
     | (refine hK _ ?_;rw [if_neg];simp_all;done)
 ·refine hK _ ?_
  rw [if_neg]
  grind
 ·refine hK _ ?_
  rw [if_pos]
  grind
end Gv
namespace Gv
variable [Glob] [Laid]
theorem cline_ca:callable Tryz.prog 42=true:=by kernel_rfl
def cline_S:Spec:=fun args K=>∃ (f:List Bs) (c:List Cmd) (t:Bs),args=[.agg [.sl strV f,.sl cmdV c,.str t]]∧K (.int .i64 (checkLine ⟨f,c,t⟩))
noncomputable def cline_lib:List (Nat × Spec):=[(31,ccheck_S),(32,word_S)]
noncomputable def cline_fns:List (Nat × FnI):=[(113,{fn:=Tryz.f113,hooks:=[],draws:=[]})]
noncomputable def cline_prims:List (Nat × PSpec):=[]
theorem cline_E:EnvOK ⟨Tryz.prog,tys,cline_lib,cline_fns,cline_prims,[]⟩:=env_ok mixed0 tys0 (.cons ccheck_ca ccheck_ok (.cons word_ca word_ok .nil)) (.cons (by kernel_rfl) ⟨Tryz.func113,by kernel_rfl,by kernel_rfl⟩ .nil) .nil rfl
theorem cline_ok:Pure Tryz.prog 42 cline_S:=by
 refine pure_by cline_E 6 (fi:={fn:=Tryz.f42,hooks:=[3],draws:=[(3,[0,1,3,0,8,24,63,127,0])]}) ⟨Tryz.func42,by kernel_rfl,by kernel_rfl⟩ ?_
 rintro _ K ⟨f,c,t,rfl,hK⟩
 replace hK:∀ r,r=.int .i64 (checkLine ⟨f,c,t⟩)→K r:=fun r h=>h ▸ hK
 unfold checkLine at hK
 dsimp only at hK
 conv=>whnf
 refine join_live [1] (σ:=Unit) (fun b=>[]) (fun _=>[.box [.sl strV f,.sl cmdV c,.str t]]) (fun b=>¬ (f.length=0∨4<f.length∨6<c.length)) ?_
 conv=>whnf
 refine ⟨?_,fun _ h1=>?_⟩
 ·repeat' first|(refine fun (b:Bool) hb=>?_;cases b<;>first|exact absurd hb (by decide)|exact nfl hb|exact nfr hb|skip)|(refine fun (hl:_≤MAXL)=>?_)|fail
  all_goals (conv=>whnf)
  all_goals first
   | (refine ⟨(),(by (refine wk_sel [some 0] rfl rfl ?_ ?_<;>(repeat' first|exact True.intro|exact rfl|exact .inl rfl|exact .inr rfl|refine And.intro ?_ ?_|fail))),?_⟩;simp_all;omega)
   | (refine hK _ ?_;rw [if_pos];simp_all;omega)
   | (refine hK _ ?_;rw [if_pos];simp_all;done)
 rw [if_neg h1] at hK
 repeat' first|exact True.intro|refine ⟨_,⟨rfl,rfl⟩,?_⟩|refine And.intro (a:=chkPast _ _ _ _ _ _ _ _) ?_ ?_|fail
 conv=>whnf
 apply Exists.intro
 apply Exists.intro
 apply And.intro
 ·repeat' first|(refine fun (b:Bool) hb=>?_;cases b<;>first|exact absurd hb (by decide)|exact nfl hb|exact nfr hb|skip)|refine And.intro (a:=_≤140737488355328) ?_ ?_|refine ⟨(fun _=>rfl),?_⟩|refine ⟨rfl,?_⟩|fail
  ·simp only [List.length_nil,List.length_map]
   omega
  ·exact rfl
  ·exfalso
   have h:true=true→f=[]:=by assumption
   simp [h rfl] at h1
 repeat' first|exact True.intro|refine ⟨_,⟨rfl,rfl⟩,?_⟩|refine And.intro (a:=chkPend _ _ _ _ _ _) ?_ ?_|refine And.intro (a:=chkPast _ _ _ _ _ _ _ _) ?_ ?_|refine ⟨⟨rfl,rfl⟩,?_⟩|fail
 refine ⟨_,⟨Bs,strV,[t],LeL.refl _,rfl,rfl⟩,?_⟩
 refine ⟨_,_,⟨fun _=>rfl,?_,rfl,rfl⟩,?_⟩
 ·simp only [List.length_nil,List.length_map,List.length_append,List.nil_append,elsOf,List.length_cons]
  omega
 have hels:[]++f.map strV++[t].map strV=(f++[t]).map strV:=by simp
 repeat' first|exact True.intro|refine ⟨_,⟨rfl,rfl⟩,?_⟩|refine ⟨_,(fun _=>⟨rfl,rfl⟩),?_⟩|refine And.intro (a:=chkPend _ _ _ _ _ _) ?_ ?_|refine And.intro (a:=chkPast _ _ _ _ _ _ _ _) ?_ ?_|fail
 rw [hels]
 generalize hg:f++[t]=g at hK hels ⊢
 have hgl:g.length≤5:=by
  rw [←hg]
  simp only [List.length_append,List.length_cons,List.length_nil]
  omega
 conv=>whnf
 refine loop_live [1,30,31] (σ:=Nat) (fun i=>[(32,.int .i64 i)]) (fun _=>[.box [.sl strV f,.sl cmdV c,.str t],.dead,.dead,.row 1 (g.map strV)]) (fun i=>i≤g.length∧(g.take i).all isWord=true) (fun i=>g.length-i) 0 ?_
 conv=>whnf
 refine ⟨(by (refine wk_sel [some 0,some 1,some 2,some 3] rfl rfl ?_ ?_<;>(repeat' first|exact True.intro|exact rfl|exact .inl rfl|exact .inr rfl|refine And.intro ?_ ?_|fail))),⟨Nat.zero_le _,rfl⟩,fun i hi=>?_⟩
 obtain ⟨hi,hI⟩:=hi
 repeat' first|(refine fun (b:Bool) hb=>?_;cases b<;>first|exact absurd hb (by decide)|exact nfl hb|exact nfr hb|skip)|(refine fun (hl:_≤MAXL)=>?_)|refine ⟨rfl,?_⟩|fail
 ·have e:g.take i=g:=List.take_of_length_le (by grind)
  rw [e] at hI
  simp only [hI] at hK
  conv=>whnf
  refine loop_live [41,42] (σ:=Nat) (fun i=>[(43,.int .i64 i)]) (fun _=>[.box [.sl strV f,.sl cmdV c,.str t],.dead,.dead,.row 1 (g.map strV)]) (fun i=>i≤c.length∧firstBad (c.drop i)=firstBad c) (fun i=>c.length-i) 0 ?_
  conv=>whnf
  refine ⟨(by (refine wk_sel [some 0,some 1,some 2,some 3] rfl rfl ?_ ?_<;>(repeat' first|exact True.intro|exact rfl|exact .inl rfl|exact .inr rfl|refine And.intro ?_ ?_|fail))),⟨Nat.zero_le _,rfl⟩,fun i hi=>?_⟩
  obtain ⟨hi,hJ⟩:=hi
  repeat' first|(refine fun (b:Bool) hb=>?_;cases b<;>first|exact absurd hb (by decide)|exact nfl hb|exact nfr hb|skip)|refine ⟨_,rfl,?_,rfl,?_⟩|fail
  ·refine hK _ ?_
   have e:c.drop i=[]:=List.drop_eq_nil_of_le (by grind)
   rw [e] at hJ
   rw [←hJ]
   rfl
  ·grind
  ·have hi2:i<c.length:=by grind
   have hd:c.drop i=c[i]::c.drop (i+1):=List.drop_eq_getElem_cons hi2
   rw [hd] at hJ
   refine ⟨c[i].kind,c[i].word,c[i].n,rfl,?_⟩
   have hb0:firstBad (c[i]::c.drop (i+1))=if checkCmd c[i]=0 then firstBad (c.drop (i+1)) else checkCmd c[i]:=rfl
   have hcc:checkCmd ⟨c[i].kind,c[i].word,c[i].n⟩=checkCmd c[i]:=rfl
   rw [hcc]
   generalize checkCmd c[i]=e at hb0 ⊢
   repeat' first|(refine fun (b:Bool) hb=>?_;cases b<;>first|exact absurd hb (by decide)|exact nfl hb|exact nfr hb|skip)|refine And.intro (a:=I64 _) ?_ ?_|fail
   ·(first|omega|(unfold I64;omega)|(simp only [List.length_append,List.length_map,List.length_cons,List.length_nil,Nat.mul_one,Int.ofNat_eq_natCast] at *;omega)|(dsimp only at *;omega)|(unfold I64;dsimp only at *;omega)|(unfold I64;grind)|grind)
   ·refine ⟨i+1,(by (refine wk_sel [some 0,some 1,some 2,some 3] rfl rfl ?_ ?_<;>(repeat' first|exact True.intro|exact rfl|exact .inl rfl|exact .inr rfl|refine And.intro ?_ ?_|fail))),⟨by omega,?_⟩,by omega⟩
    rw [←hJ,hb0,if_pos (by grind)]
   ·refine hK _ ?_
    have he:¬ e=0:=by grind
    rw [←hJ,hb0]
    simp [he]
 have hi2:i<g.length:=by grind
 refine ⟨i,rfl,by simpa using hi2,?_⟩
 refine ⟨strV g[i],by simp [hi2],?_⟩
 refine ⟨g[i],rfl,?_⟩
 have hts:g.take (i+1)=g.take i++[g[i]]:=List.take_succ_eq_append_getElem hi2
 repeat' first|(refine fun (b:Bool) hb=>?_;cases b<;>first|exact absurd hb (by decide)|exact nfl hb|exact nfr hb|skip)|refine And.intro (a:=I64 _) ?_ ?_|fail
 ·(first|omega|(unfold I64;omega)|(simp only [List.length_append,List.length_map,List.length_cons,List.length_nil,Nat.mul_one,Int.ofNat_eq_natCast] at *;omega)|(dsimp only at *;omega)|(unfold I64;dsimp only at *;omega)|(unfold I64;grind)|grind)
 ·refine ⟨i+1,(by (refine wk_sel [some 0,some 1,some 2,some 3] rfl rfl ?_ ?_<;>(repeat' first|exact True.intro|exact rfl|exact .inl rfl|exact .inr rfl|refine And.intro ?_ ?_|fail))),⟨by omega,?_⟩,by omega⟩
  rw [hts,List.all_append,hI]
  grind
 ·refine hK _ ?_
  have h1:g.all isWord=false:=by
   rw [List.all_eq_false]
   exact ⟨g[i],List.getElem_mem hi2,by grind⟩
  rw [if_pos h1]
end Gv
namespace Gv
variable [Glob] [Laid]
theorem cfiles_ca:callable Tryz.prog 89=true:=by kernel_rfl
def cfiles_S:Spec:=fun args K=>∃ l:List FileS,args=[.sl fileV l]∧K (.int .i64 (checkFiles l))
noncomputable def cfiles_lib:List (Nat × Spec):=[(32,word_S)]
noncomputable def cfiles_fns:List (Nat × FnI):=[]
noncomputable def cfiles_prims:List (Nat × PSpec):=[]
theorem cfiles_E:EnvOK ⟨Tryz.prog,tys,cfiles_lib,cfiles_fns,cfiles_prims,[]⟩:=env_ok mixed0 tys0 (.cons word_ca word_ok .nil) .nil .nil rfl
theorem cfiles_ok:Pure Tryz.prog 89 cfiles_S:=by
 refine pure_by cfiles_E 6 (fi:={fn:=Tryz.f89,hooks:=[],draws:=[(10,[0,1,3,7,7,23,63,127,255,7,519,2047,4095])]}) ⟨Tryz.func89,by kernel_rfl,by kernel_rfl⟩ ?_
 rintro _ K ⟨l,rfl,hK⟩
 replace hK:∀ r,r=.int .i64 (checkFiles l)→K r:=fun r h=>h ▸ hK
 repeat' first|(refine fun (b:Bool) hb=>?_;cases b<;>first|exact absurd hb (by decide)|exact nfl hb|exact nfr hb|skip)|(refine fun (hl:_≤MAXL)=>?_)|fail
 rotate_left
 ·refine hK _ ?_
  have h:=of_decide_eq_true (by assumption:decide ((12:Int)<(l.length:Int))=true)
  unfold checkFiles
  rw [if_pos (by omega)]
 have h12:¬ 12<l.length:=by
  have h:=of_decide_eq_false (by assumption:decide ((12:Int)<(l.length:Int))=false)
  omega
 have hcf:checkFiles l=filesGo none l:=by unfold checkFiles;rw [if_neg h12]
 rw [hcf] at hK
 conv=>whnf
 refine loop_live [0,8,9] (σ:=Nat) (fun i=>[(10,.int .i64 i)]) (fun i=>[]) (fun i=>i≤l.length∧filesGo (prevN l i) (l.drop i)=filesGo none l) (fun i=>l.length-i) 0 ?_
 conv=>whnf
 refine ⟨(by (refine wk_auto ?_;refine Sel4.mk rfl rfl ?_ ?_<;>(repeat' first|exact True.intro|exact rfl|exact .inl rfl|exact .inr rfl|refine And.intro ?_ ?_|fail))),⟨Nat.zero_le _,rfl⟩,fun i hi=>?_⟩
 obtain ⟨hi,hg⟩:=hi
 repeat' first|(refine fun (b:Bool) hb=>?_;cases b<;>first|exact absurd hb (by decide)|exact nfl hb|exact nfr hb|skip)|refine ⟨_,rfl,?_,rfl,?_⟩|fail
 ·have h:=of_decide_eq_false (by assumption:decide ((i:Int)<(l.length:Int))=false)
  have e:l.drop i=[]:=List.drop_eq_nil_of_le (by omega)
  rw [e] at hg
  conv=>whnf
  refine hK _ ?_
  rw [←hg]
  rfl
 ·have h:=of_decide_eq_true (by assumption:decide ((i:Int)<(l.length:Int))=true)
  show i<l.length
  omega
 have hlt:i<l.length:=by
  have h:=of_decide_eq_true (by assumption:decide ((i:Int)<(l.length:Int))=true)
  omega
 rw [filesGo_at hlt] at hg
 refine ⟨l[i].name,rfl,?_⟩
 repeat' first|(refine fun (b:Bool) hb=>?_;cases b<;>first|exact absurd hb (by decide)|exact nfl hb|exact nfr hb|skip)|(refine fun (hl:_≤MAXL)=>?_)|refine And.intro (a:=I64 _) ?_ ?_|refine ⟨_,⟨rfl,rfl⟩,?_⟩|refine ⟨_,And.intro (a:=I64 _) ?_ ⟨rfl,rfl⟩,?_⟩|fail
 ·unfold I64;omega
 ·have h1:isWord l[i].name=true := by
   have h:(!isWord l[i].name)=false:=by assumption
   simpa using h
  have h2:¬ (4000:Int)<(l[i].b.length:Int):=of_decide_eq_false (by assumption)
  have h3:¬ (0:Int)<(i:Int):=of_decide_eq_false (by assumption)
  have e0:i=0:=by omega
  have h4:notRise (prevN l i) l[i].name=false:=by
   have:prevN l i=none:=by unfold prevN;rw [if_pos e0]
   rw [this];rfl
  rw [if_neg (by rw [h1];decide),if_neg (by omega),if_neg (by rw [h4];decide)] at hg
  exact ⟨i+1,(by (refine wk_auto ?_;refine Sel4.mk rfl rfl ?_ ?_<;>(repeat' first|exact True.intro|exact rfl|exact .inl rfl|exact .inr rfl|refine And.intro ?_ ?_|fail))),⟨hlt,hg⟩,by omega⟩
 ·unfold I64;omega
 ·have h1:isWord l[i].name=true := by
   have h:(!isWord l[i].name)=false:=by assumption
   simpa using h
  have h2:¬ (4000:Int)<(l[i].b.length:Int):=of_decide_eq_false (by assumption)
  have h3:(0:Int)<(i:Int):=of_decide_eq_true (by assumption)
  have hp:prevN l i=some (l[i-1]'(by omega)).name:=by
   unfold prevN
   rw [if_neg (by omega),List.getD_eq_getElem?_getD,List.getElem?_eq_getElem (by omega)]
   rfl
  rw [if_neg (by rw [h1];decide),if_neg (by omega),hp] at hg
  conv=>whnf
  refine ⟨_,⟨i-1,by omega,by omega,rfl,rfl,rfl⟩,?_⟩
  repeat' first|exact True.intro|(refine fun (b:Bool) hb=>?_;cases b<;>first|exact absurd hb (by decide)|exact nfl hb|exact nfr hb|skip)|refine And.intro (a:=I64 _) ?_ ?_|refine ⟨_,⟨rfl,rfl⟩,?_⟩|refine And.intro (a:=chkPast _ _ _ _ _ _ _ _) ?_ ?_|fail
  ·unfold I64;omega
  ·have h4:notRise (some (l[i-1]'(by omega)).name) l[i].name=false := by
    have h:(!Op.bytesLess (l[i-1]'(by omega)).name l[i].name)=false:=by assumption
    exact h
   rw [if_neg (by rw [h4];decide)] at hg
   exact ⟨i+1,(by (refine wk_auto ?_;refine Sel4.mk rfl rfl ?_ ?_<;>(repeat' first|exact True.intro|exact rfl|exact .inl rfl|exact .inr rfl|refine And.intro ?_ ?_|fail))),⟨hlt,hg⟩,by omega⟩
  ·have h4:notRise (some (l[i-1]'(by omega)).name) l[i].name=true := by
    have h:(!Op.bytesLess (l[i-1]'(by omega)).name l[i].name)=true:=by assumption
    exact h
   rw [if_pos h4] at hg
   conv=>whnf
   exact hK _ (by rw [←hg])
 ·have h1:isWord l[i].name=true := by
   have h:(!isWord l[i].name)=false:=by assumption
   simpa using h
  have h2:(4000:Int)<(l[i].b.length:Int):=of_decide_eq_true (by assumption)
  rw [if_neg (by rw [h1];decide),if_pos (by omega)] at hg
  conv=>whnf
  exact hK _ (by rw [←hg])
 ·have h1:isWord l[i].name=false := by
   have h:(!isWord l[i].name)=true:=by assumption
   simpa using h
  rw [if_pos h1] at hg
  conv=>whnf
  exact hK _ (by rw [←hg])
end Gv
namespace Gv
variable [Glob] [Laid]
theorem placeF_ca:callable Tryz.prog 125=true:=by kernel_rfl
def placeF_S:Spec:=fun args K=>∃ (l:List FileS) (n:Bs),args=[.sl fileV l,.str n]∧K (.tup [.int .i64 (placeI l n:Nat),.bool (isAt l n)])
noncomputable def placeF_lib:List (Nat × Spec):=[]
noncomputable def placeF_fns:List (Nat × FnI):=[(128,{fn:=Tryz.f128,hooks:=[],draws:=[]}),(181,{fn:=Tryz.f181,hooks:=[],draws:=[]})]
noncomputable def placeF_prims:List (Nat × PSpec):=[]
theorem placeF_E:EnvOK ⟨Tryz.prog,tys,placeF_lib,placeF_fns,placeF_prims,[]⟩:=env_ok mixed0 tys0 .nil (.cons (by kernel_rfl) ⟨Tryz.func128,by kernel_rfl,by kernel_rfl⟩ (.cons (by kernel_rfl) ⟨Tryz.func181,by kernel_rfl,by kernel_rfl⟩ .nil)) .nil rfl
theorem placeF_ok:Pure Tryz.prog 125 placeF_S:=by
 refine pure_by placeF_E 6 (fi:={fn:=Tryz.f125,hooks:=[],draws:=[(4,[0,0,0,6,14,30,0,126,1,511])]}) ⟨Tryz.func125,by kernel_rfl,by kernel_rfl⟩ ?_
 rintro _ K ⟨l,n,rfl,hK⟩
 replace hK:∀ r,r=.tup [.int .i64 (placeI l n:Nat),.bool (isAt l n)]→K r:=fun r h=>h ▸ hK
 repeat' first|(refine fun (hl:_≤MAXL)=>?_)|fail
 conv=>whnf
 refine loop_live [0,1,7] (σ:=Nat) (fun i=>[(8,.int .i64 i)]) (fun i=>[.box [.str n]]) (fun i=>i≤l.length∧∀ j (h:j<l.length),j<i→notLess n l[j]=false) (fun i=>l.length-i) 0 ?_
 conv=>whnf
 refine ⟨(by (refine wk_auto ?_;refine Sel4.mk rfl rfl ?_ ?_<;>(repeat' first|exact True.intro|exact rfl|exact .inl rfl|exact .inr rfl|refine And.intro ?_ ?_|fail))),⟨Nat.zero_le _,fun j h h'=>by omega⟩,fun i hi=>?_⟩
 obtain ⟨hi,hn⟩:=hi
 repeat' first|exact True.intro|(refine fun (b:Bool) hb=>?_;cases b<;>first|exact absurd hb (by decide)|exact nfl hb|exact nfr hb|skip)|(refine fun (hl:_≤MAXL)=>?_)|refine And.intro (a:=I64 _) ?_ ?_|refine ⟨_,⟨rfl,rfl⟩,?_⟩|refine And.intro (a:=chkPast _ _ _ _ _ _ _ _) ?_ ?_|refine ⟨_,⟨_,rfl,?_,rfl,rfl,rfl⟩,?_⟩|refine ⟨_,rfl,?_,rfl,?_⟩|fail
 ·have hge:¬ (i:Int)<(l.length:Int):=of_decide_eq_false (by assumption)
  have ei:i=l.length:=by omega
  have hp:placeI l n=l.length:=place_end fun j hj=>hn j hj (by omega)
  skip
  refine hK _ ?_
  unfold isAt
  rw [hp,List.getElem?_eq_none (Nat.le_refl _)]
 ·have h:=of_decide_eq_true (by assumption:decide ((i:Int)<(l.length:Int))=true)
  show i<l.length
  omega
 ·have hl0:l.length≤MAXL:=by assumption
  unfold MAXL at hl0
  have h:=of_decide_eq_true (by assumption:decide ((i:Int)<(l.length:Int))=true)
  unfold I64;omega
 ·have hlt:i<l.length := by
   have h:=of_decide_eq_true (by assumption:decide ((i:Int)<(l.length:Int))=true)
   omega
  have hx:notLess n l[i]=false:=by assumption
  refine ⟨i+1,(by (refine wk_auto ?_;refine Sel4.mk rfl rfl ?_ ?_<;>(repeat' first|exact True.intro|exact rfl|exact .inl rfl|exact .inr rfl|refine And.intro ?_ ?_|fail))),⟨hlt,fun j hj hj2=>?_⟩,by omega⟩
  rcases Nat.lt_or_ge j i with h|h
  ·exact hn j hj h
  ·have:j=i:=by omega
   subst this
   exact hx
 ·have h:=of_decide_eq_true (by assumption:decide ((i:Int)<(l.length:Int))=true)
  show i<l.length
  omega
 ·have hlt:i<l.length := by
   have h:=of_decide_eq_true (by assumption:decide ((i:Int)<(l.length:Int))=true)
   omega
  have hx:notLess n l[i]=true:=by assumption
  have hp:placeI l n=i:=place_at hlt hx hn
  skip
  refine hK _ ?_
  unfold isAt
  rw [hp,List.getElem?_eq_getElem hlt]
end Gv
namespace Gv
variable [Glob] [Laid]
theorem cloneB_ca:callable Tryz.prog 126=true:=by kernel_rfl
def cloneB_S:Spec:=fun args K=>∃ a:List UInt8,args=[.sl byteV a]∧a.length≤1000000∧K (.sl byteV a)
noncomputable def cloneB_lib:List (Nat × Spec):=[]
noncomputable def cloneB_fns:List (Nat × FnI):=[]
noncomputable def cloneB_prims:List (Nat × PSpec):=[]
theorem cloneB_E:EnvOK ⟨Tryz.prog,tys,cloneB_lib,cloneB_fns,cloneB_prims,[]⟩:=env_ok mixed0 tys0 .nil .nil .nil rfl
theorem cloneB_ok:Pure Tryz.prog 126 cloneB_S:=by
 refine pure_by cloneB_E 6 (fi:={fn:=Tryz.f126,hooks:=[],draws:=[]}) ⟨Tryz.func126,by kernel_rfl,by kernel_rfl⟩ ?_
 rintro _ K ⟨x,rfl,hx,hK⟩
 replace hK:∀ p,p=.sl byteV x→K p:=fun r h=>h ▸ hK
 repeat' first|refine ⟨_,_,_,LeL.refl _,?_⟩|(refine fun (b:Bool) hb=>?_;cases b<;>first|exact absurd hb (by decide)|exact nfl hb|exact nfr hb|skip)|refine And.intro (a:=_≤140737488355328) ?_ ?_|refine ⟨(fun _=>rfl),?_⟩|refine ⟨UInt8,byteV,?_⟩|fail
 ·simp
  omega
 ·exact hK _ rfl
 ·rename_i h
  have e:=h rfl
  subst e
  exact hK _ rfl
end Gv
namespace Gv
variable [Glob] [Laid]
theorem bytesF_ca:callable Tryz.prog 129=true:=by kernel_rfl
def bytesF_S:Spec:=fun args K=>∃ (l:List FileS) (n:Bs),args=[.sl fileV l,.str n]∧(∀ f∈l,f.b.length≤1000000)∧K (.sl byteV (fileAt l n))
noncomputable def bytesF_lib:List (Nat × Spec):=[(125,placeF_S),(126,cloneB_S)]
noncomputable def bytesF_fns:List (Nat × FnI):=[]
noncomputable def bytesF_prims:List (Nat × PSpec):=[]
theorem bytesF_E:EnvOK ⟨Tryz.prog,tys,bytesF_lib,bytesF_fns,bytesF_prims,[]⟩:=env_ok mixed0 tys0 (.cons placeF_ca placeF_ok (.cons cloneB_ca cloneB_ok .nil)) .nil .nil rfl
theorem bytesF_ok:Pure Tryz.prog 129 bytesF_S:=by
 refine pure_by bytesF_E 6 (fi:={fn:=Tryz.f129,hooks:=[],draws:=[]}) ⟨Tryz.func129,by kernel_rfl,by kernel_rfl⟩ ?_
 rintro _ K ⟨l,n,rfl,hfb,hK⟩
 replace hK:∀ r,r=.sl byteV (fileAt l n)→K r:=fun r h=>h ▸ hK
 refine ⟨l,n,rfl,?_⟩
 obtain ⟨q,hq⟩:∃ q,isAt l n=q:=⟨_,rfl⟩
 rw [hq]
 cases q
 ·repeat' first|(refine fun (b:Bool) hb=>?_;cases b<;>first|exact absurd hb (by decide)|exact nfl hb|exact nfr hb|skip)|fail
  refine ⟨UInt8,byteV,?_⟩
  refine hK _ ?_
  unfold isAt at hq
  unfold fileAt
  cases h:l[placeI l n]? with
  | none=>rfl
  | some f =>
   rw [h] at hq
   have:¬ f.name=n:=of_decide_eq_false hq
   simp [this]
 ·have hx:∃ h:placeI l n<l.length, l[placeI l n].name=n := by
   unfold isAt at hq
   cases h:l[placeI l n]? with
   | none=>rw [h] at hq;cases hq
   | some f =>
    rw [h] at hq
    obtain ⟨h1,h2⟩:=List.getElem?_eq_some_iff.1 h
    exact ⟨h1,by rw [h2];exact of_decide_eq_true hq⟩
  obtain ⟨hlt,hn⟩:=hx
  have hf:fileAt l n=l[placeI l n].b:=by
   unfold fileAt
   rw [List.getElem?_eq_getElem hlt]
   simp [hn]
  rw [hf] at hK
  repeat' first|(refine fun (b:Bool) hb=>?_;cases b<;>first|exact absurd hb (by decide)|exact nfl hb|exact nfr hb|skip)|refine ⟨_,rfl,?_,rfl,?_⟩|fail
  ·exact hlt
  refine ⟨l[placeI l n].b,rfl,hfb _ (List.getElem_mem hlt),?_⟩
  skip
  exact hK _ rfl
end Gv
namespace Gv
variable [Glob] [Laid]
end Gv
namespace Gv
variable [Glob] [Laid]
theorem index1_ca:callable Tryz.prog 266=true:=by kernel_rfl
def index1_S:Spec:=fun args K=>∃ (l:List UInt8),args=[.sl byteV l,.sl byteV [10]]∧K (.int .i64 (idxB l 10))
theorem index1_ok:Pure Tryz.prog 266 index1_S:=by
 refine pure_look fun w m args us K hm hg hl hv hT=>?_
 obtain ⟨l,rfl,hK⟩:=hT
 obtain ⟨a,b,rfl,ha,hb⟩:=args2 hl hv
 obtain ⟨p,c,rfl,hp,hlc,hc,hx⟩:=bytes_open ha hm
 obtain ⟨p2,c2,rfl,hp2,hlc2,hc2,hx2⟩:=bytes_open hb hm
 refine ⟨_,_,hK,.int,?_⟩
 match p2,hp2,hx2 with
 | none,hp2,_=>exact absurd (hp2 rfl).1 (by simp)
 | some ⟨b2,o2,sp2⟩,_,hx2 =>
  obtain ⟨h1,h2⟩:=hx2 b2 o2 sp2 rfl
  have hs:sp2=none:=h1.resolve_right (by simp)
  subst hs
  have h3:=h2 0 (by simp)
  have h4:w.cell? ⟨b2,o2,none⟩=some (.int .u8 10):=by simpa [Addr.add,numsOf] using h3
  match p,hp,hx with
  | none,hp,_ =>
   obtain ⟨rfl,rfl⟩:=hp rfl
   exact (Tryz.bytes_Index_one_nil b2 o2 c2 10 w h4).mono fun e w' ⟨he,hw⟩=>⟨by rw [he];rfl,by subst hw;exact Bel.refl _ _⟩
  | some ⟨b1,o1,sp1⟩,_,hx =>
   refine (Tryz.bytes_Index_one_at ⟨b1,o1,sp1⟩ l.length c b2 o2 c2 (numsOf l) 10 w (numsOf_length l) (fun i hi=>(hx b1 o1 sp1 rfl).2 i hi) h4).mono fun e w' ⟨he,hw⟩=>⟨by rw [he,bytesOf_nums];rfl,by subst hw;exact Bel.refl _ _⟩
end Gv
namespace Gv
variable [Glob] [Laid]
theorem cut_idx (l:Bs):(cutNl l).2.2=decide (0≤idxB l 10)∧(0≤idxB l 10→idxB l 10+1≤l.length∧(cutNl l).1=l.take (idxB l 10).toNat∧(cutNl l).2.1=l.drop ((idxB l 10).toNat+1))∧(idxB l 10<0→cutNl l=(l,[],false)):=by
 unfold idxB
 rcases nl_cases l with h|⟨a,r,rfl,ha⟩
 ·have e:Lib.indexByte l 10=-1 := by
   induction l with
   | nil=>rfl
   | cons c l ih =>
    simp only [List.mem_cons,not_or] at h
    unfold Lib.indexByte
    rw [if_neg (by simpa using fun e=>h.1 (e.symm)),ih h.2]
    rfl
  rw [e,cutNl_no h]
  refine ⟨rfl,fun h=>by omega,fun _=>rfl⟩
 ·have e:Lib.indexByte (a++10::r) 10=a.length := by
   induction a with
   | nil=>rfl
   | cons c a ih =>
    simp only [List.mem_cons,not_or] at ha
    show Lib.indexByte (c::(a++10::r)) 10=_
    unfold Lib.indexByte
    rw [if_neg (by simpa using fun e=>ha.1 (e.symm)),ih ha.2,if_neg (by simp<;>omega)]
    simp
  rw [e,cutNl_nl ha]
  refine ⟨by simp,fun _=>⟨by simp<;>omega,by simp,?_⟩,fun h=>by omega⟩
  rw [Int.toNat_natCast,show a.length+1=(a++[10]).length by simp,show a++10::r=(a++[10])++r by simp,List.drop_left]
theorem cut_ca:callable Tryz.prog 227=true:=by kernel_rfl
def cut_S:Spec:=fun args K=>∃ (l:List UInt8),args=[.sl byteV l,.sl byteV [10]]∧l.length≤1000000∧K (.tup [.sl byteV (cutNl l).1,.sl byteV (cutNl l).2.1,.bool (cutNl l).2.2])
noncomputable def cut_lib:List (Nat × Spec):=[(266,index1_S)]
noncomputable def cut_fns:List (Nat × FnI):=[]
noncomputable def cut_prims:List (Nat × PSpec):=[]
theorem cut_E:EnvOK ⟨Tryz.prog,tys,cut_lib,cut_fns,cut_prims,[]⟩:=env_ok mixed0 tys0 (.cons index1_ca index1_ok .nil) .nil .nil rfl
theorem cut_ok:Pure Tryz.prog 227 cut_S:=by
 refine pure_by cut_E 6 (fi:={fn:=Tryz.f227,hooks:=[],draws:=[(3,[0,0,3,0,0,0,32,112,248,7,1023,2047])]}) ⟨Tryz.func227,by kernel_rfl,by kernel_rfl⟩ ?_
 rintro _ K ⟨l,rfl,hz,hK⟩
 replace hK:∀ r,r=.tup [.sl byteV (cutNl l).1,.sl byteV (cutNl l).2.1,.bool (cutNl l).2.2]→K r:=fun r h=>h ▸ hK
 obtain ⟨h1,h2,h3⟩:=cut_idx l
 refine ⟨l,rfl,?_⟩
 repeat' first|(refine fun (b:Bool) hb=>?_;cases b<;>first|exact absurd hb (by decide)|exact nfl hb|exact nfr hb|skip)|refine ⟨_,⟨rfl,rfl⟩,?_⟩|refine ⟨UInt8,byteV,?_⟩|fail
 ·refine hK _ ?_
  rw [h3 (by grind)]
 have hi:0≤idxB l 10:=by grind
 obtain ⟨g1,g2,g3⟩:=h2 hi
 refine ⟨_,⟨fun _=>rfl,(idxB l 10).toNat,by omega,by omega,rfl,rfl⟩,?_⟩
 repeat' first|refine ⟨_,⟨rfl,rfl⟩,?_⟩|refine ⟨_,And.intro (a:=I64 _) ?_ ⟨rfl,rfl⟩,?_⟩|refine ⟨_,(fun _=>⟨rfl,rfl⟩),?_⟩|fail
 ·simp only [List.length_cons,List.length_nil]
  unfold I64
  omega
 refine ⟨_,⟨fun _=>rfl,(idxB l 10).toNat+1,?_,by omega,rfl,rfl⟩,?_⟩
 ·simp only [List.length_cons,List.length_nil]
  omega
 repeat' first|refine ⟨_,⟨rfl,rfl⟩,?_⟩|fail
 refine hK _ ?_
 rw [g2,g3,h1,decide_eq_true hi]
end Gv
namespace Gv
variable [Glob] [Laid]
theorem of_ca:callable Tryz.prog 158=true:=by kernel_rfl
def of_S:Spec:=fun args K=>∃ (b:Bs),args=[.sl byteV b]∧b.length≤1000000∧K (.sl strV (linesOf b))
noncomputable def of_lib:List (Nat × Spec):=[(227,cut_S)]
noncomputable def of_fns:List (Nat × FnI):=[]
noncomputable def of_prims:List (Nat × PSpec):=[]
theorem of_E:EnvOK ⟨Tryz.prog,tys,of_lib,of_fns,of_prims,[]⟩:=env_ok mixed0 tys0 (.cons cut_ca cut_ok .nil) .nil .nil rfl
theorem of_ok:Pure Tryz.prog 158 of_S:=by
 refine pure_by of_E 6 (fi:={fn:=Tryz.f158,hooks:=[],draws:=[]}) ⟨Tryz.func158,by kernel_rfl,by kernel_rfl⟩ ?_
 rintro _ K ⟨b0,rfl,hz,hK⟩
 conv=>whnf
 refine loop_live [] (σ:=List Bs × Bs) (fun s=>[(3,.own 0),(0,.sl byteV s.2)]) (fun s=>[.row 1 (s.1.map strV)]) (fun s=>s.1++linesOf s.2=linesOf b0∧s.2.length+s.1.length≤1000000) (fun s=>s.2.length) ([],b0) ?_
 conv=>whnf
 refine ⟨(by (refine wk_sel [none] rfl rfl ?_ ?_<;>(repeat' first|exact True.intro|exact rfl|exact .inl rfl|exact .inr rfl|refine And.intro ?_ ?_|fail))),⟨rfl,hz⟩,fun s hs=>?_⟩
 obtain ⟨l,b⟩:=s
 obtain ⟨h1,h2⟩:=hs
 replace h1:l++linesOf b=linesOf b0:=h1
 replace h2:b.length+l.length≤1000000:=h2
 repeat' first|refine ⟨_,_,_,LeL.refl _,?_⟩|(refine fun (b:Bool) hb=>?_;cases b<;>first|exact absurd hb (by decide)|exact nfl hb|exact nfr hb|skip)|(refine fun (hl:_≤MAXL)=>?_)|fail
 ·have:b=[] := by
   have h:decide (0<(b.length:Int))=false:=by assumption
   cases b with
   | nil=>rfl
   | cons c b=>simp at h<;>omega
  subst this
  rw [linesOf_nil,List.append_nil] at h1
  rw [h1]
  exact hK
 have hb0:b≠[]:=by
  intro e
  subst e
  have h:decide ((0:Int)<(([]:Bs).length:Int))=true:=by assumption
  simp at h
 have g1:=linesOf_cut hb0
 have g2:=cut_len hb0
 refine ⟨UInt8,byteV,[10],LeL.refl _,?_⟩
 refine ⟨b,rfl,by omega,?_⟩
 repeat' first|refine And.intro (a:=_≤140737488355328) ?_ ?_|refine ⟨_,(fun _=>rfl),rfl,?_⟩|refine ⟨rfl,?_⟩|fail
 ·simp only [List.length_map,List.length_cons,List.length_nil]
  have:=List.length_pos_iff.2 hb0
  omega
 ·refine ⟨(l++[(cutNl b).1],(cutNl b).2.1),?_,⟨?_,?_⟩,g2.1⟩
  ·refine wk_sel [some 3] rfl rfl ⟨?_,trivial⟩ ?_
   ·rw [List.map_append]
    exact rfl
   ·(repeat' first|exact True.intro|exact rfl|exact .inl rfl|exact .inr rfl|refine And.intro ?_ ?_|fail)
  ·rw [←h1,g1,List.append_assoc]
   rfl
  ·simp only [List.length_append,List.length_cons,List.length_nil]
   omega
end Gv
namespace Gv
variable [Glob] [Laid]
theorem linesL_ca:callable Tryz.prog 123=true:=by kernel_rfl
def linesL_S:Spec:=fun args K=>∃ (b:Bs),args=[.sl byteV b]∧b.length≤1000000∧K (.sl strV (linesOf b))
noncomputable def linesL_lib:List (Nat × Spec):=[(158,of_S)]
noncomputable def linesL_fns:List (Nat × FnI):=[]
noncomputable def linesL_prims:List (Nat × PSpec):=[]
theorem linesL_E:EnvOK ⟨Tryz.prog,tys,linesL_lib,linesL_fns,linesL_prims,[]⟩:=env_ok mixed0 tys0 (.cons of_ca of_ok .nil) .nil .nil rfl
theorem linesL_ok:Pure Tryz.prog 123 linesL_S:=by
 refine pure_by linesL_E 6 (fi:={fn:=Tryz.f123,hooks:=[],draws:=[]}) ⟨Tryz.func123,by kernel_rfl,by kernel_rfl⟩ ?_
 rintro _ K ⟨b,rfl,hz,hK⟩
 replace hK:∀ r,r=.sl strV (linesOf b)→K r:=fun r h=>h ▸ hK
 repeat' (first|exact True.intro|refine ⟨_,LeL.refl _,?_⟩|refine ⟨_,_,_,LeL.refl _,?_⟩|(refine fun (b:Bool) hb=>?_;cases b<;>first|exact absurd hb (by decide)|exact nfl hb|exact nfr hb|skip)|(refine fun (hl:_≤MAXL)=>?_)|refine And.intro (a:=I64 _) ?_ ?_|refine And.intro (a:=_≤140737488355328) ?_ ?_|refine ⟨_,⟨rfl,rfl⟩,?_⟩|refine ⟨_,And.intro (a:=I64 _) ?_ ⟨rfl,rfl⟩,?_⟩|refine ⟨_,_,⟨rfl,rfl⟩,?_⟩|refine ⟨_,(fun _=>⟨rfl,rfl⟩),?_⟩|refine And.intro (a:=chkPend _ _ _ _ _ _) ?_ ?_|refine And.intro (a:=chkPast _ _ _ _ _ _ _ _) ?_ ?_|refine ⟨⟨rfl,rfl⟩,?_⟩|refine And.intro (And.intro rfl rfl) ?_|refine ⟨True.intro,?_⟩|refine ⟨_,⟨_,rfl,?_,rfl,rfl,rfl⟩,?_⟩|refine ⟨_,rfl,?_,rfl,?_⟩|refine ⟨_,(fun _=>rfl),rfl,?_⟩|refine ⟨(fun _=>rfl),?_⟩|refine ⟨rfl,?_⟩|refine Opt.a ?_|fail)
 refine ⟨b,rfl,hz,?_⟩
 repeat' (first|exact True.intro|refine ⟨_,LeL.refl _,?_⟩|refine ⟨_,_,_,LeL.refl _,?_⟩|(refine fun (b:Bool) hb=>?_;cases b<;>first|exact absurd hb (by decide)|exact nfl hb|exact nfr hb|skip)|(refine fun (hl:_≤MAXL)=>?_)|refine And.intro (a:=I64 _) ?_ ?_|refine And.intro (a:=_≤140737488355328) ?_ ?_|refine ⟨_,⟨rfl,rfl⟩,?_⟩|refine ⟨_,And.intro (a:=I64 _) ?_ ⟨rfl,rfl⟩,?_⟩|refine ⟨_,_,⟨rfl,rfl⟩,?_⟩|refine ⟨_,(fun _=>⟨rfl,rfl⟩),?_⟩|refine And.intro (a:=chkPend _ _ _ _ _ _) ?_ ?_|refine And.intro (a:=chkPast _ _ _ _ _ _ _ _) ?_ ?_|refine ⟨⟨rfl,rfl⟩,?_⟩|refine And.intro (And.intro rfl rfl) ?_|refine ⟨True.intro,?_⟩|refine ⟨_,⟨_,rfl,?_,rfl,rfl,rfl⟩,?_⟩|refine ⟨_,rfl,?_,rfl,?_⟩|refine ⟨_,(fun _=>rfl),rfl,?_⟩|refine ⟨(fun _=>rfl),?_⟩|refine ⟨rfl,?_⟩|refine Opt.a ?_|fail)
 exact hK _ rfl
end Gv
namespace Gv
variable [Glob] [Laid]
theorem put_ca:callable Tryz.prog 97=true:=by kernel_rfl
def put_S:Spec:=fun args K=>∃ l:List Bs,args=[.sl strV l]∧(put l).length≤1000000∧K (.sl byteV (put l))
noncomputable def put_lib:List (Nat × Spec):=[]
noncomputable def put_fns:List (Nat × FnI):=[]
noncomputable def put_prims:List (Nat × PSpec):=[]
theorem put_E:EnvOK ⟨Tryz.prog,tys,put_lib,put_fns,put_prims,[]⟩:=env_ok mixed0 tys0 .nil .nil .nil rfl
theorem put_ok:Pure Tryz.prog 97 put_S:=by
 refine pure_by put_E 6 (fi:={fn:=Tryz.f97,hooks:=[],draws:=[]}) ⟨Tryz.func97,by kernel_rfl,by kernel_rfl⟩ ?_
 rintro _ K ⟨l,rfl,hb,hK⟩
 refine fun (hl:_≤MAXL)=>?_
 conv=>whnf
 refine loop_live [6,7] (σ:=Nat) (fun i=>[(3,.own 0),(8,.int .i64 i)]) (fun i=>[.row 1 ((put (l.take i)).map byteV)]) (fun i=>i≤l.length) (fun i=>l.length-i) 0 ?_
 conv=>whnf
 refine ⟨(by (refine wk_sel [none] rfl rfl ?_ ?_<;>(repeat' first|exact True.intro|exact rfl|exact .inl rfl|exact .inr rfl|refine And.intro ?_ ?_|fail))),Nat.zero_le _,fun i hi=>?_⟩
 have h1:=put_take_le l i
 have h2:=put_take_le l (i+1)
 repeat' first|refine ⟨_,_,_,LeL.refl _,?_⟩|(refine fun (b:Bool) hb=>?_;cases b<;>first|exact absurd hb (by decide)|exact nfl hb|exact nfr hb|skip)|refine And.intro (a:=I64 _) ?_ ?_|refine And.intro (a:=_≤140737488355328) ?_ ?_|refine ⟨_,rfl,?_,rfl,?_⟩|refine ⟨rfl,?_⟩|fail
 ·rw [List.take_of_length_le (by grind)]
  exact hK
 ·grind
 ·rw [put_take_succ (by grind)] at h2
  simp only [List.length_append,List.length_map,List.length_cons,List.length_nil,Nat.mul_one] at *
  omega
 ·rw [put_take_succ (by grind)] at h2
  simp only [List.length_append,List.length_map,List.length_cons,List.length_nil,Nat.mul_one] at *
  omega
 ·(first|omega|(unfold I64;omega)|(simp only [List.length_append,List.length_map,List.length_cons,List.length_nil,Nat.mul_one,Int.ofNat_eq_natCast] at *;omega)|(dsimp only at *;omega)|(unfold I64;dsimp only at *;omega)|(unfold I64;grind)|grind)
 ·refine ⟨i+1,?_,by grind,by grind⟩
  refine wk_sel [some 3] rfl rfl ⟨?_,trivial⟩ ?_
  ·rw [put_take_succ (by grind),List.map_append,List.map_append,←List.append_assoc]
   exact rfl
  ·(repeat' first|exact True.intro|exact rfl|exact .inl rfl|exact .inr rfl|refine And.intro ?_ ?_|fail)
end Gv
namespace Gv
variable [Glob] [Laid]
theorem gather_ca:callable Tryz.prog 85=true:=by kernel_rfl
def gather_S:Spec:=fun args K=>∃ (l:List FileS) (f:List Bs),args=[.sl fileV l,.sl strV f]∧K (.tup [.sl byteV (gatherS l f).1,.int .i64 (gatherS l f).2])
noncomputable def gather_lib:List (Nat × Spec):=[(89,cfiles_S),(129,bytesF_S),(123,linesL_S),(97,put_S)]
noncomputable def gather_fns:List (Nat × FnI):=[]
noncomputable def gather_prims:List (Nat × PSpec):=[]
theorem gather_E:EnvOK ⟨Tryz.prog,tys,gather_lib,gather_fns,gather_prims,[]⟩:=env_ok mixed0 tys0 (.cons cfiles_ca cfiles_ok (.cons bytesF_ca bytesF_ok (.cons linesL_ca linesL_ok (.cons put_ca put_ok .nil)))) .nil .nil rfl
theorem gather_ok:Pure Tryz.prog 85 gather_S:=by
 refine pure_by gather_E 6 (fi:={fn:=Tryz.f85,hooks:=[],draws:=[]}) ⟨Tryz.func85,by kernel_rfl,by kernel_rfl⟩ ?_
 rintro _ K ⟨l,f,rfl,hK⟩
 replace hK:∀ r,r=.tup [.sl byteV (gatherS l f).1,.int .i64 (gatherS l f).2]→K r:=fun r h=>h ▸ hK
 have hone:∀ r:Bs × Int,gatherS l f=r→K (.tup [.sl byteV r.1,.int .i64 r.2]):=fun r h=>hK _ (by rw [h])
 unfold gatherS at hone
 refine ⟨l,rfl,?_⟩
 obtain ⟨e,he⟩:∃ e,checkFiles l=e:=⟨_,rfl⟩
 rw [he] at hone ⊢
 repeat' first|(refine fun (b:Bool) hb=>?_;cases b<;>first|exact absurd hb (by decide)|exact nfl hb|exact nfr hb|skip)|(refine fun (hl:_≤MAXL)=>?_)|fail
 ·have h0:e=0 := by
   have h:(!decide (e=0))=false:=by assumption
   simpa using h
  subst h0
  have hf4:¬ (4:Int)<(f.length:Int):=of_decide_eq_false (by assumption)
  rw [if_neg (by simp),if_neg (by omega)] at hone
  have hfb:=(checkFiles_ok he).2
  have hwl:∀ s,(whole (fileAt l s)).length≤4001:=fun s=>by
   have h1:=fileAt_len (fun f hf=>(hfb f hf).2) s
   have h2:=whole_len (fileAt l s)
   omega
  skip
  conv=>whnf
  refine loop_live [0,19,20] (σ:=Nat × Bs) (fun s=>[(21,.int .i64 s.1),(7,.own 0)]) (fun s=>[.row 1 (s.2.map byteV)]) (fun s=>s.1≤f.length∧gatherGo l s.2 (f.drop s.1)=gatherGo l [] f∧s.2.length≤4000) (fun s=>f.length-s.1) (0,[]) ?_
  conv=>whnf
  refine ⟨(by (refine wk_auto ?_;refine Sel4.mk rfl rfl ?_ ?_<;>(repeat' first|exact True.intro|exact rfl|exact .inl rfl|exact .inr rfl|refine And.intro ?_ ?_|fail))),⟨Nat.zero_le _,rfl,by simp⟩,fun s hs=>?_⟩
  obtain ⟨i,out⟩:=s
  obtain ⟨hi,hg,ho⟩:=hs
  dsimp only at hi hg ho
  repeat' first|refine ⟨_,_,_,LeL.refl _,?_⟩|(refine fun (b:Bool) hb=>?_;cases b<;>first|exact absurd hb (by decide)|exact nfl hb|exact nfr hb|skip)|refine ⟨_,rfl,?_,rfl,?_⟩|fail
  ·have hge:¬ (i:Int)<(f.length:Int):=of_decide_eq_false (by assumption)
   have e:f.drop i=[]:=List.drop_eq_nil_of_le (by omega)
   rw [e] at hg
   conv=>whnf
   exact hone _ hg.symm
  ·have h:=of_decide_eq_true (by assumption:decide ((i:Int)<(f.length:Int))=true)
   show i<f.length
   omega
  have hlt:i<f.length:=by
   have h:=of_decide_eq_true (by assumption:decide ((i:Int)<(f.length:Int))=true)
   omega
  rw [List.drop_eq_getElem_cons hlt,gatherGo] at hg
  have hw:=hwl f[i]
  refine ⟨l,f[i],rfl,fun g hgm=>by have:=(hfb g hgm).2;omega,?_⟩
  refine ⟨fileAt l f[i],rfl,by have:=fileAt_len (fun f hf=>(hfb f hf).2) f[i];omega,?_⟩
  refine ⟨linesOf (fileAt l f[i]),rfl,by unfold whole at hw;omega,?_⟩
  have hwe:put (linesOf (fileAt l f[i]))=whole (fileAt l f[i]):=rfl
  have hom:((out.map byteV).length:Int)=(out.length:Int):=by rw [List.length_map]
  repeat' first|(refine fun (b:Bool) hb=>?_;cases b<;>first|exact absurd hb (by decide)|exact nfl hb|exact nfr hb|skip)|(refine fun (hl:_≤MAXL)=>?_)|refine And.intro (a:=I64 _) ?_ ?_|refine And.intro (a:=_≤140737488355328) ?_ ?_|refine ⟨(fun _=>rfl),?_⟩|fail
  ·show I64 (4000-((out.map byteV).length:Int))
   rw [hom]
   unfold I64;omega
  ·show ((out.map byteV).length+((put (linesOf (fileAt l f[i]))).map byteV).length)*1≤140737488355328
   rw [List.length_map,List.length_map,hwe]
   omega
  ·unfold I64
   dsimp only
   omega
  ·have h:¬ ((4000:Int)-((out.map byteV).length:Int)<((put (linesOf (fileAt l f[i]))).length:Int)):=of_decide_eq_false (by assumption)
   rw [hom,hwe] at h
   rw [if_neg (by omega)] at hg
   refine ⟨(i+1,out++whole (fileAt l f[i])),?_,⟨hlt,hg,by show (out++_).length≤4000;rw [List.length_append];omega⟩,by show f.length-(i+1)<f.length-i;omega⟩
   (refine wk_auto ?_;refine Sel4.mk rfl rfl ?_ ?_<;>(repeat' first|exact True.intro|exact rfl|exact .inl rfl|exact .inr rfl|refine And.intro ?_ ?_|fail))
   show Row.row 1 _=Row.row 1 _
   rw [List.map_append]
   rfl
  ·have h:((4000:Int)-((out.map byteV).length:Int)<((put (linesOf (fileAt l f[i]))).length:Int)):=of_decide_eq_true (by assumption)
   rw [hom,hwe] at h
   rw [if_pos (by omega)] at hg
   skip
   refine ⟨_,byteV,hone _ hg.symm⟩
 ·have h0:e=0 := by
   have h:(!decide (e=0))=false:=by assumption
   simpa using h
  subst h0
  have hf4:(4:Int)<(f.length:Int):=of_decide_eq_true (by assumption)
  rw [if_neg (by simp),if_pos (by omega)] at hone
  skip
  exact ⟨_,byteV,hone _ rfl⟩
 ·have h0:¬ e=0 := by
   have h:(!decide (e=0))=true:=by assumption
   simpa using h
  rw [if_pos h0] at hone
  skip
  exact ⟨_,byteV,hone _ rfl⟩
end Gv
namespace Gv
variable [Glob] [Laid]
theorem containsS_ca:callable Tryz.prog 104=true:=by kernel_rfl
def containsS_S:Spec:=fun args K=>∃ (s sub:Bs),args=[.str s,.str sub]∧s.length<4294967281∧K (.bool (Lib.contains s sub))
theorem containsS_ok:Pure Tryz.prog 104 containsS_S:=by
 intro w m args us K hm hg hv hT
 obtain ⟨s,sub,rfl,h1,hK⟩:=hT
 obtain ⟨a,b,rfl,ha,hb⟩:=args2 hv.1 hv.2
 obtain ⟨rfl,-⟩:=vr_str ha
 obtain ⟨rfl,-⟩:=vr_str hb
 obtain ⟨n,hn⟩:=Laid.maxlen w (fun b o e=>hm b o (hg b o e))
 refine (Tryz.strings_Contains (ba s) (ba sub) n w (by rw [ba_size];exact h1) hn).mono fun e w' ⟨he,hw⟩=>?_
 subst hw
 exact ⟨_,_,he,Bel.refl _ _,hK,.bool⟩
end Gv
namespace Gv
variable [Glob] [Laid]
theorem replaceS_ca:callable Tryz.prog 229=true:=by kernel_rfl
def replaceS_S:Spec:=fun args K=>∃ (s old new:Bs),args=[.str s,.str old,.str new]∧(s.length<4294967281∧1≤old.length∧s.length+Lib.count s old*new.length≤140737488355328∧(Lib.replaceAll s old new).length≤MAXL)∧K (.str (Lib.replaceAll s old new))
theorem replaceS_ok:Pure Tryz.prog 229 replaceS_S:=by
 intro w m args us K hm hg hv hT
 obtain ⟨s,old,new,rfl,⟨h1,h2,h3,h4⟩,hK⟩:=hT
 obtain ⟨a,b,c,rfl,ha,hb,hc⟩:=args3 hv.1 hv.2
 obtain ⟨rfl,-⟩:=vr_str ha
 obtain ⟨rfl,-⟩:=vr_str hb
 obtain ⟨rfl,-⟩:=vr_str hc
 obtain ⟨n,hn⟩:=Laid.maxlen w (fun b o e=>hm b o (hg b o e))
 refine (Tryz.strings_ReplaceAll (ba s) (ba old) (ba new) n w (by rw [ba_size];exact h1) hn (by rw [ba_size];exact h2) (by rw [ba_size,ba_size];exact h3)).mono fun e w' ⟨he,hw⟩=>?_
 exact ⟨_,_,he,Bel.of_below hw,hK,.str h4⟩
end Gv
namespace Gv
variable [Glob] [Laid]
theorem splitS_ca:callable Tryz.prog 105=true:=by kernel_rfl
def splitS_S:Spec:=fun args K=>∃ (s sep:Bs),args=[.str s,.str sep]∧(s.length<4294967281∧1≤sep.length)∧K (.sl strV (Lib.split s sep))
theorem splitS_ok:Pure Tryz.prog 105 splitS_S:=by
 intro w m args us K hm hg hv hT
 obtain ⟨s,sep,rfl,⟨h1,h2⟩,hK⟩:=hT
 obtain ⟨a,b,rfl,ha,hb⟩:=args2 hv.1 hv.2
 obtain ⟨rfl,-⟩:=vr_str ha
 obtain ⟨rfl,-⟩:=vr_str hb
 obtain ⟨n,hn⟩:=Laid.maxlen w (fun b o e=>hm b o (hg b o e))
 refine (Tryz.strings_Split (ba s) (ba sep) n w (by rw [ba_size];exact h1) hn (by rw [ba_size];exact h2)).mono fun e w' ⟨he,hw⟩=>?_
 subst hw
 rw [split_cells] at *
 have hc:Lib.countB (ba s) (ba sep)+1=(Lib.split s sep).length:=(split_len s sep h2).symm
 have hle:(Lib.split s sep).length≤s.length+2:=by
  rw [←hc]
  have:=Lib.count_le s sep
  show Lib.count s sep+1≤_
  omega
 refine ⟨_,_,by rw [he,hc],Bel.alloc [] w _,hK,strs_new (Gw.heap_alloc_new w _) (by unfold MAXL;omega) fun x hx=>?_⟩
 have:=splitK_le sep _ s x hx
 unfold MAXL
 omega
end Gv
namespace Gv
variable [Glob] [Laid]
def swp (l:Bs) (i:Nat):Bs:=(List.range l.length).map fun k=>if k<i∨l.length-1-k<i then l.getD (l.length-1-k) 0 else l.getD k 0
theorem swp_len (l:Bs) (i:Nat):(swp l i).length=l.length:=by simp [swp]
theorem swp_0 (l:Bs):swp l 0=l:=by
 refine List.ext_getElem (by simp [swp]) fun i h1 h2=>?_
 simp [swp,h2]
theorem swp_end (l:Bs) (i:Nat) (h:l.length≤2*i+1):swp l i=l.reverse:=by
 refine List.ext_getElem (by simp [swp]) fun k h1 h2=>?_
 have hk:k<l.length:=by simpa using h2
 simp only [swp,List.getElem_map,List.getElem_range,List.getElem_reverse]
 by_cases hc:k<i∨l.length-1-k<i
 ·rw [if_pos hc,List.getD_eq_getElem?_getD,List.getElem?_eq_getElem (by omega)]
  rfl
 ·rw [if_neg hc,List.getD_eq_getElem?_getD,List.getElem?_eq_getElem hk]
  have e:l.length-1-k=k:=by omega
  simp only [e]
  rfl
theorem swp_next (l:Bs) (i:Nat) (h:2*i+1<l.length):((swp l i).set i (l.getD (l.length-1-i) 0)).set (l.length-1-i) (l.getD i 0)=swp l (i+1):=by
 refine List.ext_getElem (by simp [swp]) fun k h1 h2=>?_
 have hk:k<l.length:=by simpa [swp] using h2
 rw [List.getElem_set,List.getElem_set]
 simp only [swp,List.getElem_map,List.getElem_range]
 by_cases e1:l.length-1-i=k
 ·rw [if_pos e1,if_pos (by omega)]
  have:l.length-1-k=i:=by omega
  rw [this]
 ·rw [if_neg e1]
  by_cases e2:i=k
  ·rw [if_pos e2,if_pos (by omega),e2]
  ·rw [if_neg e2]
   by_cases hc:k<i∨l.length-1-k<i
   ·rw [if_pos hc,if_pos (by omega)]
   ·rw [if_neg hc,if_neg (by omega)]
theorem swp_at (l:Bs) (i k:Nat) (hk:k<l.length) (h:¬ (k<i∨l.length-1-k<i)):(swp l i)[k]?=some (l.getD k 0):=by
 unfold swp
 rw [List.getElem?_map,List.getElem?_range hk]
 simp only [Option.map_some]
 rw [if_neg h]
theorem revB_ca:callable Tryz.prog 230=true:=by kernel_rfl
def revB_P:PSpec:=fun args rows K=>∃ (l:Bs),args=[.own 0]∧rows=[.row 1 (l.map byteV)]∧l.length≤1000000∧K (.tup []) [.row 1 (l.reverse.map byteV)]
noncomputable def revB_lib:List (Nat × Spec):=[]
noncomputable def revB_fns:List (Nat × FnI):=[]
noncomputable def revB_prims:List (Nat × PSpec):=[]
theorem revB_E:EnvOK ⟨Tryz.prog,tys,revB_lib,revB_fns,revB_prims,[]⟩:=env_ok mixed0 tys0 .nil .nil .nil rfl
theorem revB_prim:PrimOK Tryz.prog 230 revB_P:=by
 refine prim_by revB_E 6 revB_ca (fi:={fn:=Tryz.f230,hooks:=[],draws:=[(3,[0,0,0,0,0,0,48,112,0,0,768,1792,4083,8179,16383,32767])]}) ⟨Tryz.func230,by kernel_rfl,by kernel_rfl⟩ ?_
 rintro args rows K ⟨l,rfl,rfl,hz,hK⟩
 repeat' first|(refine fun (hl:_≤MAXL)=>?_)|refine And.intro (a:=I64 _) ?_ ?_|fail
 ·(first|omega|(unfold I64;omega)|(simp only [List.length_append,List.length_map,List.length_cons,List.length_nil,Nat.mul_one,Int.ofNat_eq_natCast] at *;omega)|(dsimp only at *;omega)|(unfold I64;dsimp only at *;omega)|(unfold I64;grind)|grind)
 conv=>whnf
 refine loop_live [0] (σ:=Nat × Int × Bs) (fun s=>[(2,.int .i64 s.1),(3,.int .i64 s.2.1)]) (fun s=>[.row 1 (s.2.2.map byteV)]) (fun s=>s.2.1=(l.length:Int)-1-s.1∧s.2.2=swp l s.1∧2*s.1≤l.length+1) (fun s=>l.length+1-s.1) (0,((l.map byteV).length:Int)-1,l) ?_
 conv=>whnf
 refine ⟨(by (refine wk_auto ?_;refine Sel4.mk rfl rfl ?_ ?_<;>(repeat' first|exact True.intro|exact rfl|exact .inl rfl|exact .inr rfl|refine And.intro ?_ ?_|fail))),⟨by simp,(swp_0 l).symm,by omega⟩,fun s hs=>?_⟩
 obtain ⟨i,j,d⟩:=s
 obtain ⟨hj,hd,hi⟩:=hs
 dsimp only at hj hd hi
 have hdl:d.length=l.length:=by rw [hd,swp_len]
 repeat' first|(refine fun (b:Bool) hb=>?_;cases b<;>first|exact absurd hb (by decide)|exact nfl hb|exact nfr hb|skip)|refine ⟨_,⟨rfl,rfl⟩,?_⟩|fail
 ·have hij:¬ (i:Int)<j:=of_decide_eq_false (by assumption)
  have:d=l.reverse:=by rw [hd,swp_end _ _ (by omega)]
  rw [this]
  conv=>whnf
  exact hK
 have hij:(i:Int)<j:=of_decide_eq_true (by assumption)
 obtain ⟨k,hk⟩:∃ k:Nat,j=k:=⟨j.toNat,by omega⟩
 subst hk
 have hkl:k<d.length:=by omega
 have hil:i<d.length:=by omega
 have gk:(List.map byteV d)[k]?=some (byteV d[k]):=by rw [List.getElem?_map,List.getElem?_eq_getElem hkl];rfl
 have gi:(List.map byteV d)[i]?=some (byteV d[i]):=by rw [List.getElem?_map,List.getElem?_eq_getElem hil];rfl
 refine ⟨_,⟨rfl,k,rfl,by simpa using hkl,⟨rfl,rfl⟩⟩,?_⟩
 repeat' first|exact True.intro|refine And.intro (a:=chkPast _ _ _ _ _ _ _ _) ?_ ?_|fail
 conv=>whnf
 refine ⟨_,⟨_,gk,⟨rfl,rfl⟩⟩,?_⟩
 repeat' first|exact True.intro|refine ⟨_,⟨rfl,rfl⟩,?_⟩|refine And.intro (a:=chkPast _ _ _ _ _ _ _ _) ?_ ?_|fail
 conv=>whnf
 refine ⟨_,⟨rfl,i,rfl,by simpa using hil,⟨rfl,rfl⟩⟩,?_⟩
 repeat' first|exact True.intro|refine And.intro (a:=chkPast _ _ _ _ _ _ _ _) ?_ ?_|fail
 conv=>whnf
 refine ⟨_,⟨_,gi,⟨rfl,rfl⟩⟩,?_⟩
 repeat' first|exact True.intro|refine And.intro (a:=chkPast _ _ _ _ _ _ _ _) ?_ ?_|fail
 conv=>whnf
 refine ⟨_,⟨rfl,i,rfl,by simpa using hil,⟨rfl,rfl⟩⟩,?_⟩
 repeat' first|exact True.intro|refine And.intro (a:=chkPast _ _ _ _ _ _ _ _) ?_ ?_|fail
 refine ⟨_,_,⟨by simpa using hil,rfl,rfl⟩,?_⟩
 repeat' first|exact True.intro|refine And.intro (a:=chkPend _ _ _ _ _ _) ?_ ?_|fail
 conv=>whnf
 refine ⟨_,⟨rfl,k,rfl,by simpa using hkl,⟨rfl,rfl⟩⟩,?_⟩
 repeat' first|exact True.intro|refine And.intro (a:=chkPast _ _ _ _ _ _ _ _) ?_ ?_|fail
 conv=>whnf
 refine ⟨_,_,⟨by simpa using hkl,rfl,rfl⟩,?_⟩
 repeat' first|exact True.intro|refine And.intro (a:=I64 _) ?_ ?_|refine And.intro (a:=chkPend _ _ _ _ _ _) ?_ ?_|fail
 ·unfold I64
  dsimp only
  omega
 ·unfold I64
  dsimp only
  omega
 have ek:k=l.length-1-i:=by omega
 have e1:d[k]=l.getD k 0:=by
  have h:=swp_at l i k (by omega) (by omega)
  rw [←hd,List.getElem?_eq_getElem hkl] at h
  exact Option.some.inj h
 have e2:d[i]=l.getD i 0:=by
  have h:=swp_at l i i (by omega) (by omega)
  rw [←hd,List.getElem?_eq_getElem hil] at h
  exact Option.some.inj h
 refine ⟨(i+1,(k:Int)-1,(d.set i d[k]).set k d[i]),?_,⟨?_,?_,?_⟩,?_⟩
 rotate_left
 ·show (k:Int)-1=(l.length:Int)-1-((i+1:Nat):Int)
  omega
 ·show (d.set i d[k]).set k d[i]=swp l (i+1)
  rw [e1,e2,hd,ek]
  exact swp_next l i (by omega)
 ·show 2*(i+1)≤l.length+1
  omega
 ·show l.length+1-(i+1)<l.length+1-i
  omega
 (refine wk_auto ?_;refine Sel4.mk rfl rfl ?_ ?_<;>(repeat' first|exact True.intro|exact rfl|exact .inl rfl|exact .inr rfl|refine And.intro ?_ ?_|fail))
 all_goals try (show Row.row 1 _=Row.row 1 _)
 simp [List.map_set]
end Gv
namespace Gv
variable [Glob] [Laid]
theorem one_ca:callable Tryz.prog 161=true:=by kernel_rfl
def one_S:Spec:=fun args K=>∃ (c:Cmd) (s:Bs),args=[cmdV c,.str s]∧(checkCmd c=0∧s.length≤900000)∧K (.tup [.str (oneC c s).1,.bool (oneC c s).2])
noncomputable def one_lib:List (Nat × Spec):=[(104,containsS_S),(229,replaceS_S),(105,splitS_S)]
noncomputable def one_fns:List (Nat × FnI):=[]
noncomputable def one_prims:List (Nat × PSpec):=[(230,revB_P)]
theorem one_E:EnvOK ⟨Tryz.prog,tys,one_lib,one_fns,one_prims,[]⟩:=env_ok mixed0 tys0 (.cons containsS_ca containsS_ok (.cons replaceS_ca replaceS_ok (.cons splitS_ca splitS_ok .nil))) .nil (.cons revB_prim .nil) rfl
theorem one_ok:Pure Tryz.prog 161 one_S:=by
 refine pure_by one_E 6 (fi:={fn:=Tryz.f161,hooks:=[],draws:=[(7,[0,0,2,6,0,16,48,127,255,511])]}) ⟨Tryz.func161,by kernel_rfl,by kernel_rfl⟩ ?_
 rintro _ K ⟨c,s,rfl,⟨hc,hs⟩,hK⟩
 replace hK:∀ r,r=.tup [.str (oneC c s).1,.bool (oneC c s).2]→K r:=fun r h=>h ▸ hK
 have hsw:=@splitK_sz [32] (Lib.count s [32]) s
 have hsn:0<(Lib.split s [32]).length:=List.length_pos_iff.2 (split_ne s [32])
 have hcn:c.kind=4→1≤c.n:=fun h=>by
  unfold checkCmd useN at hc
  grind
 have hcw:=@word2 c hc
 have hsl:(Lib.split s [32]).length≤1000000:=by
  rw [split_len _ _ (by decide),Lib.count_one]
  have:=List.count_le_length (a:=(32:UInt8)) (l:=s)
  omega
 have hone:∀ r:Bs × Bool,oneC c s=r→K (.tup [.str r.1,.bool r.2]):=fun r h=>hK _ (by rw [h])
 unfold oneC at hone
 repeat' first|exact True.intro|(refine fun (b:Bool) hb=>?_;cases b<;>first|exact absurd hb (by decide)|exact nfl hb|exact nfr hb|skip)|refine And.intro (a:=_≤140737488355328) ?_ ?_|refine ⟨_,⟨rfl,rfl⟩,?_⟩|refine And.intro (a:=chkPast _ _ _ _ _ _ _ _) ?_ ?_|refine Opt.b ?_|fail
 ·
  omega
 ·refine ⟨s,rfl,rfl,by omega,?_⟩
  skip
  refine ⟨s.reverse,rfl,rfl,?_⟩
  skip
  have h1:¬ c.kind=1:=of_decide_eq_false (by assumption)
  have h2:¬ c.kind=2:=of_decide_eq_false (by assumption)
  have h3:¬ c.kind=3:=of_decide_eq_false (by assumption)
  have h4:¬ c.kind=4:=of_decide_eq_false (by assumption)
  rw [if_neg h1,if_neg h2,if_neg h3,if_neg h4] at hone
  exact hone _ rfl
 ·
  have h4:c.kind=4:=of_decide_eq_true (by assumption)
  have:=hcn h4
  refine ⟨s,[32],rfl,⟨by omega,by decide⟩,?_⟩
  rw [if_neg (by omega),if_neg (by omega),if_neg (by omega),if_pos h4] at hone
  repeat' first|(refine fun (b:Bool) hb=>?_;cases b<;>first|exact absurd hb (by decide)|exact nfl hb|exact nfr hb|skip)|(refine fun (hl:_≤MAXL)=>?_)|refine And.intro (a:=I64 _) ?_ ?_|fail
  ·have hle:¬ ((Lib.split s [32]).length:Int)<c.n:=of_decide_eq_false (by assumption)
   (first|omega|(unfold I64;omega)|(simp only [List.length_append,List.length_map,List.length_cons,List.length_nil,Nat.mul_one,Int.ofNat_eq_natCast] at *;omega)|(dsimp only at *;omega)|(unfold I64;dsimp only at *;omega)|(unfold I64;grind)|grind)
  ·have hle:¬ ((Lib.split s [32]).length:Int)<c.n:=of_decide_eq_false (by assumption)
   have hlt:(c.n-1).toNat<(Lib.split s [32]).length:=by omega
   refine ⟨(c.n-1).toNat,by omega,hlt,rfl,?_⟩
   skip
   rw [if_neg hle] at hone
   have e:(Lib.split s [32]).getD (c.n-1).toNat []=(Lib.split s [32])[(c.n-1).toNat]:=by rw [List.getD_eq_getElem?_getD,List.getElem?_eq_getElem hlt];rfl
   rw [e] at hone
   exact hone _ rfl
  ·have hle:((Lib.split s [32]).length:Int)<c.n:=of_decide_eq_true (by assumption)
   rw [if_pos hle] at hone
   exact hone _ rfl
 ·
  have h3:c.kind=3:=of_decide_eq_true (by assumption)
  obtain ⟨x,y,hw⟩:=hcw h3
  rw [if_neg (by omega),if_neg (by omega),if_pos h3] at hone
  obtain ⟨ck,cw,cn⟩:=c
  dsimp only at hw
  subst hw
  refine ⟨_,⟨0,1,rfl,rfl,by decide,by show 1≤2;decide,rfl,rfl⟩,?_⟩
  repeat' first|exact True.intro|refine ⟨_,⟨rfl,rfl⟩,?_⟩|refine And.intro (a:=chkPast _ _ _ _ _ _ _ _) ?_ ?_|fail
  conv=>whnf
  refine ⟨_,⟨1,2,rfl,rfl,by decide,by show 2≤2;decide,rfl,rfl⟩,?_⟩
  skip
  have hr:=replace_one x y s
  have hl:(Lib.replaceAll s [x] [y]).length=s.length:=by rw [hr];simp
  have hcs:Lib.count s [x]≤s.length:=by rw [Lib.count_one];exact List.count_le_length
  apply Exists.intro
  apply And.intro
  ·refine ⟨s,[x],[y],rfl,⟨by omega,by show 1≤1;decide,by show s.length+Lib.count s [x] * 1≤_;omega,by rw [hl];unfold MAXL;omega⟩,?_⟩
   exact ⟨rfl,rfl⟩
  repeat' first|refine ⟨_,⟨rfl,rfl⟩,?_⟩|fail
  exact hone _ rfl
 ·have h:c.kind=2:=of_decide_eq_true (by assumption)
  refine ⟨s,c.word,rfl,by omega,?_⟩
  skip
  rw [if_neg (by omega),if_pos h] at hone
  exact hone _ rfl
 ·have h:c.kind=1:=of_decide_eq_true (by assumption)
  refine ⟨s,c.word,rfl,by omega,?_⟩
  skip
  rw [if_pos h] at hone
  exact hone _ rfl
end Gv
namespace Gv
variable [Glob] [Laid] [Nums]
theorem bel_more (w:World) (k:Nat) (os:Array Obj):Bel [] w (Go.Sort.grow (w.drewN k) os) :=
 ⟨rfl,rfl,rfl,by rw [Go.Sort.size_grow];exact Nat.le_add_right _ _,fun i hi _=>Go.Sort.heap_grow_old (w.drewN k) os hi⟩
theorem itoa_ca:callable Tryz.prog 107=true:=by kernel_rfl
def itoa_S:Spec:=fun args K=>∃ (n:Int),args=[.int .i64 n]∧I64 n∧K (.str (Lib.itoa n))
theorem itoa_ok:Pure Tryz.prog 107 itoa_S:=by
 intro w m args us K hm hg hv hT
 obtain ⟨n,rfl,h1,hK⟩:=hT
 obtain ⟨a,rfl,ha⟩:=args1 hv.1 hv.2
 cases ha
 refine (Tryz.strconv_Itoa n h1.1 h1.2 w (Nums.pow10 w (fun b o e=>hm b o (hg b o e)))).mono fun e w' ⟨he,k,os,hw⟩=>?_
 subst hw
 have:=itoa_len n h1
 exact ⟨_,_,he,bel_more w k os,hK,.str (by unfold MAXL;omega)⟩
end Gv
namespace Gv
variable [Glob] [Laid]
theorem sortS_ca:callable Tryz.prog 159=true:=by kernel_rfl
def sortS_P:PSpec:=fun args rows K=>(∃ (l:List Bs),args=[.own 0]∧rows=[.row 1 (l.map strV)]∧l.length<4611686018427387904∧K (.tup []) [.row 1 ((sortB l).map strV)])∨(args=[.nil]∧rows=[]∧K (.tup []) [])
theorem sortS_prim:PrimOK Tryz.prog 159 sortS_P:=by
 intro w0 m0 args rows k R m q w us C hv hT
 rcases hT with ⟨l,rfl,rfl,hl,hK⟩|⟨rfl,rfl,hK⟩
 rotate_left
 ·obtain ⟨u,rfl,hu⟩:=vrl_one hv
  refine ⟨sortS_ca,?_⟩
  cases hu
  refine (Tryz.slices_Sort_string_none none 0 w).mono fun e w' ⟨he,hw⟩=>?_
  subst hw
  exact ⟨_,he,_,_,_,_,_,hK,C,Mem.Le.refl m,Loc.Le.refl q,.tup (us:=[]) rfl fun i v u h=>by simp at h⟩
 obtain ⟨u,rfl,hu⟩:=vrl_one hv
 refine ⟨sortS_ca,?_⟩
 rcases own_strs C hu with ⟨rfl,rfl⟩|⟨b,cap,arr,T,fz,rfl,h1,h2,h3,h4,h5,h6,h7,h8⟩
 ·refine (Tryz.slices_Sort_string_none none 0 w).mono fun e w' ⟨he,hw⟩=>?_
  subst hw
  have e:sortB ([]:List Bs)=[]:=by simp [sortB]
  rw [e] at hK
  exact ⟨_,he,_,_,_,_,_,hK,C,Mem.Le.refl m,Loc.Le.refl q,.tup (us:=[]) rfl fun i v u h=>by simp at h⟩
 ·have hblk:=C.sit.lt h4
  refine (Tryz.slices_Sort_string b 0 cap l w h7 hblk hl).mono fun e w' ⟨he,n,os,hw⟩=>?_
  obtain ⟨g1,g2⟩:=sorted_world (C.sit.own _ _ h4).2.1 hw
  have C2:=C.strs_put (l':=sortB l) h3 h4 h5 h6 h2 h1 (sortB_len l) (fun x hx=>h8 x ((sortB_perm l).mem_iff.1 hx)) g1 g2
  exact ⟨_,he,_,_,_,_,_,hK,C2,Mem.Le.refl m,Loc.Le.refl q,.tup (us:=[]) rfl fun i v u h=>by simp at h⟩
end Gv
namespace Gv
variable [Glob] [Laid]
theorem compactS_ca:callable Tryz.prog 160=true:=by kernel_rfl
def compactS_P:PSpec:=fun args rows K=>(∃ (l:List Bs),args=[.own 0]∧rows=[.row 1 (l.map strV)]∧K (.own 1) [.dead,.row 1 ((onceB l).map strV)])∨(args=[.nil]∧rows=[]∧K .nil [])
theorem compactS_prim:PrimOK Tryz.prog 160 compactS_P:=by
 intro w0 m0 args rows k R m q w us C hv hT
 rcases hT with ⟨l,rfl,rfl,hK⟩|⟨rfl,rfl,hK⟩
 rotate_left
 ·obtain ⟨u,rfl,hu⟩:=vrl_one hv
  refine ⟨compactS_ca,?_⟩
  cases hu
  refine (Tryz.slices_Compact_string_empty none 0 w).mono fun e w' ⟨he,hw⟩=>?_
  subst hw
  exact ⟨_,he,_,_,_,_,_,hK,C,Mem.Le.refl m,Loc.Le.refl q,.nil⟩
 obtain ⟨u,rfl,hu⟩:=vrl_one hv
 refine ⟨compactS_ca,?_⟩
 rcases own_strs C hu with ⟨rfl,rfl⟩|⟨b,cap,arr,T,fz,rfl,h1,h2,h3,h4,h5,h6,h7,h8⟩
 ·refine (Tryz.slices_Compact_string_empty none 0 w).mono fun e w' ⟨he,hw⟩=>?_
  subst hw
  have C1:=C.kill (r:=0) rfl
  have C2:=C1.row0 1
  refine ⟨_,he,_,_,_,_,_,hK,C2,Mem.Le.refl m,C1.le_add _,?_⟩
  exact VR.own (add_self q 1 (none,0,0,1))
 ·have hw0:=(C.sit.own _ _ h4).2.1
  refine (Tryz.slices_Compact_string b 0 cap l w h7 (by unfold MAXL at h2;omega) h1).mono fun e w' ⟨he,n,hw⟩=>?_
  obtain ⟨g1,g2⟩:=sorted_world (w':=w') (n:=n) (d:=(Lib.compact l++List.replicate (l.length-(Lib.compact l).length) ([]:Bs)).toArray) (os:=#[]) hw0 (by rw [hw,Go.Sort.grow_empty])
  have S':=C.sit.write h4 g1 g2
  have hlen:(Lib.compact l++List.replicate (l.length-(Lib.compact l).length) ([]:Bs)).length≤cap:=by
   have:=onceB_len l
   unfold onceB at this
   simp
   omega
  have he':ElsR m 1 ((onceB l).map strV) (Go.Sort.putCells Go.Proofs.encStr 0 (Lib.compact l++List.replicate (l.length-(Lib.compact l).length) ([]:Bs)).toArray arr):=fun i x hi=>by
   have hx:=els_put (m:=m) (l:=l) (l':=Lib.compact l++List.replicate (l.length-(Lib.compact l).length) ([]:Bs)) h5 hlen (fun x hx=>by
    rcases List.mem_append.1 hx with hx|hx
    ·exact h8 x (onceB_sub l x hx)
    ·rw [(List.mem_replicate.1 hx).2];exact Nat.zero_le _)
   refine hx i x ?_
   rw [List.map_append,List.getElem?_append_left (show i<((Lib.compact l).map strV).length from (List.getElem?_eq_some_iff.1 hi).1)]
   exact hi
  have e0:([Row.row 1 (l.map strV)].set 0 Row.dead++[.row 1 ((onceB l).map strV)])=[.dead,.row 1 ((onceB l).map strV)]:=rfl
  have C2:=C.move (r:=0) (y:=.row 1 ((onceB l).map strV)) (n':=(onceB l).length) (c':=cap) (k':=1) rfl rfl h3 S' ⟨some b,cap,by simp [add_self],by simp;have:=onceB_len l;omega,h2,(fun h=>by cases h),fun b' e=>by
   cases e
   exact ⟨_,T,fz,by simp [Mem.put],by rw [putCells_size];exact h5,he',noFk1 (by rw [putCells_size];exact h6)⟩⟩
  refine ⟨_,he,_,_,_,_,_,hK,C2,Mem.Le.refl m,C.le_add _,?_⟩
  exact VR.own (add_self q 1 (some b,(onceB l).length,cap,1))
end Gv
namespace Gv
variable [Glob] [Laid] [Nums]
theorem linesC_ca:callable Tryz.prog 98=true:=by kernel_rfl
def linesC_S:Spec:=fun args K=>∃ (c:Cmd) (l:List Bs),args=[cmdV c,.sl strV l]∧(checkCmd c=0∧l.length≤900000∧∀ s∈l,s.length≤900000)∧K (.sl strV (linesC c l))
noncomputable def linesC_lib:List (Nat × Spec):=[(161,one_S),(107,itoa_S)]
noncomputable def linesC_fns:List (Nat × FnI):=[(113,{fn:=Tryz.f113,hooks:=[],draws:=[]})]
noncomputable def linesC_prims:List (Nat × PSpec):=[(159,sortS_P),(160,compactS_P)]
theorem linesC_E:EnvOK ⟨Tryz.prog,tys,linesC_lib,linesC_fns,linesC_prims,[]⟩:=env_ok mixed0 tys0 (.cons one_ca one_ok (.cons itoa_ca itoa_ok .nil)) (.cons (by kernel_rfl) ⟨Tryz.func113,by kernel_rfl,by kernel_rfl⟩ .nil) (.cons sortS_prim (.cons compactS_prim .nil)) rfl
theorem linesC_ok:Pure Tryz.prog 98 linesC_S:=by
 refine pure_by linesC_E 6 (fi:={fn:=Tryz.f98,hooks:=[],draws:=[]}) ⟨Tryz.func98,by kernel_rfl,by kernel_rfl⟩ ?_
 rintro _ K ⟨c,l,rfl,⟨hc,hl,hs⟩,hK⟩
 replace hK:∀ r,r=.sl strV (linesC c l)→K r:=fun r h=>h ▸ hK
 have hcn:c.kind=9∨c.kind=10→1≤c.n∧c.n≤1000:=fun h=>by
  unfold checkCmd useN at hc
  grind
 have hone:∀ r:List Bs,linesC c l=r→K (.sl strV r):=fun r h=>hK _ (by rw [h])
 unfold linesC at hone
 repeat' first|(refine fun (b:Bool) hb=>?_;cases b<;>first|exact absurd hb (by decide)|exact nfl hb|exact nfr hb|skip)|(refine fun (hl:_≤MAXL)=>?_)|refine And.intro (a:=I64 _) ?_ ?_|refine And.intro (a:=_≤140737488355328) ?_ ?_|refine ⟨(fun _=>rfl),?_⟩|fail
 ·
  have h6:¬ c.kind=6:=of_decide_eq_false (by assumption)
  have h7:¬ c.kind=7:=of_decide_eq_false (by assumption)
  have h8:¬ c.kind=8:=of_decide_eq_false (by assumption)
  have h9:¬ c.kind=9:=of_decide_eq_false (by assumption)
  have h10:¬ c.kind=10:=of_decide_eq_false (by assumption)
  rw [if_neg h6,if_neg h7,if_neg h8,if_neg h9,if_neg h10] at hone
  conv=>whnf
  refine loop_live [2,51,52] (σ:=Nat × List Bs) (fun s=>[(53,.int .i64 s.1),(5,.own 1)]) (fun s=>[.box (cmdV c).cells,.row 1 (s.2.map strV)]) (fun s=>s.2=(l.take s.1).filterMap (outC c)∧s.1≤l.length) (fun s=>l.length-s.1) (0,[]) ?_
  conv=>whnf
  refine ⟨(by (refine wk_auto ?_;refine Sel4.mk rfl rfl ?_ ?_<;>(repeat' first|exact True.intro|exact rfl|exact .inl rfl|exact .inr rfl|refine And.intro ?_ ?_|fail))),⟨by simp,Nat.zero_le _⟩,fun s hs=>?_⟩
  obtain ⟨i,out⟩:=s
  obtain ⟨ho,hi⟩:=hs
  dsimp only at ho hi
  have hol:out.length≤900000:=by
   rw [ho]
   have:=List.length_filterMap_le (outC c) (l.take i)
   simp only [List.length_take] at this
   omega
  repeat' first|refine ⟨_,_,_,LeL.refl _,?_⟩|(refine fun (b:Bool) hb=>?_;cases b<;>first|exact absurd hb (by decide)|exact nfl hb|exact nfr hb|skip)|refine ⟨_,rfl,?_,rfl,?_⟩|fail
  ·have h:¬ (i:Int)<(l.length:Int):=of_decide_eq_false (by assumption)
   have e:i=l.length:=by omega
   rw [e,List.take_length] at ho
   conv=>whnf
   exact hone _ ho.symm
  all_goals have hlt:i<l.length:=by grind
  ·exact hlt
  refine ⟨c,l[i],rfl,⟨hc,hs _ (List.getElem_mem hlt)⟩,?_⟩
  have hnx:(l.take (i+1)).filterMap (outC c)=out++(match oneC c l[i] with|(t,true)=>[t]|(_,false)=>[]):=by
   rw [List.take_succ_eq_append_getElem hlt,List.filterMap_append,←ho]
   congr 1
   simp only [List.filterMap_cons,List.filterMap_nil]
   unfold outC
   generalize oneC c l[i]=p
   obtain ⟨t,b⟩:=p
   cases b<;>rfl
  obtain ⟨p,hp⟩:∃ p,oneC c l[i]=p:=⟨_,rfl⟩
  rw [hp] at hnx ⊢
  obtain ⟨t,b⟩:=p
  cases b
  ·repeat' first|(refine fun (b:Bool) hb=>?_;cases b<;>first|exact absurd hb (by decide)|exact nfl hb|exact nfr hb|skip)|refine And.intro (a:=I64 _) ?_ ?_|fail
   ·(first|omega|(unfold I64;omega)|(simp only [List.length_append,List.length_map,List.length_cons,List.length_nil,Nat.mul_one,Int.ofNat_eq_natCast] at *;omega)|(dsimp only at *;omega)|(unfold I64;dsimp only at *;omega)|(unfold I64;grind)|grind)
   refine ⟨(i+1,out),(by (refine wk_auto ?_;refine Sel4.mk rfl rfl ?_ ?_<;>(repeat' first|exact True.intro|exact rfl|exact .inl rfl|exact .inr rfl|refine And.intro ?_ ?_|fail))),⟨?_,hlt⟩,?_⟩
   ·show out=_
    rw [hnx]
    simp
   ·show l.length-(i+1)<l.length-i
    omega
  ·repeat' first|(refine fun (b:Bool) hb=>?_;cases b<;>first|exact absurd hb (by decide)|exact nfl hb|exact nfr hb|skip)|refine And.intro (a:=I64 _) ?_ ?_|refine And.intro (a:=_≤140737488355328) ?_ ?_|refine ⟨rfl,?_⟩|fail
   ·show ((out.map strV).length+1)*16≤140737488355328
    rw [List.length_map]
    omega
   ·(first|omega|(unfold I64;omega)|(simp only [List.length_append,List.length_map,List.length_cons,List.length_nil,Nat.mul_one,Int.ofNat_eq_natCast] at *;omega)|(dsimp only at *;omega)|(unfold I64;dsimp only at *;omega)|(unfold I64;grind)|grind)
   refine ⟨(i+1,out++[t]),?_,⟨?_,hlt⟩,?_⟩
   rotate_left
   ·show out++[t]=_
    rw [hnx]
   ·show l.length-(i+1)<l.length-i
    omega
   (refine wk_auto ?_;refine Sel4.mk rfl rfl ?_ ?_<;>(repeat' first|exact True.intro|exact rfl|exact .inl rfl|exact .inr rfl|refine And.intro ?_ ?_|fail))
   show Row.row 1 _=Row.row 1 _
   simp
   rfl
 ·obtain ⟨h1,h2⟩:=hcn (.inr (of_decide_eq_true (by assumption)))
  (first|omega|(unfold I64;omega)|(simp only [List.length_append,List.length_map,List.length_cons,List.length_nil,Nat.mul_one,Int.ofNat_eq_natCast] at *;omega)|(dsimp only at *;omega)|(unfold I64;dsimp only at *;omega)|(unfold I64;grind)|grind)
 ·obtain ⟨h1,h2⟩:=hcn (.inr (of_decide_eq_true (by assumption)))
  have h6:¬ c.kind=6:=of_decide_eq_false (by assumption)
  have h7:¬ c.kind=7:=of_decide_eq_false (by assumption)
  have h8:¬ c.kind=8:=of_decide_eq_false (by assumption)
  have h9:¬ c.kind=9:=of_decide_eq_false (by assumption)
  have h10:c.kind=10:=of_decide_eq_true (by assumption)
  rw [if_neg h6,if_neg h7,if_neg h8,if_neg h9,if_pos h10] at hone
  conv=>whnf
  refine ⟨l.length-c.n.toNat,by omega,by omega,?_⟩
  repeat' first|refine ⟨_,_,_,LeL.refl _,?_⟩|(refine fun (b:Bool) hb=>?_;cases b<;>first|exact absurd hb (by decide)|exact nfl hb|exact nfr hb|skip)|refine And.intro (a:=_≤140737488355328) ?_ ?_|refine ⟨(fun _=>rfl),?_⟩|fail
  ·show (0+((l.drop (l.length-c.n.toNat)).map strV).length)*16≤140737488355328
   rw [List.length_map,List.length_drop]
   omega
  ·exact hone _ rfl
  ·have h:true=true→l.drop (l.length-c.n.toNat)=[]:=by assumption
   refine ⟨_,strV,hone _ (h rfl)⟩
 ·obtain ⟨h1,h2⟩:=hcn (.inl (of_decide_eq_true (by assumption)))
  have h6:¬ c.kind=6:=of_decide_eq_false (by assumption)
  have h7:¬ c.kind=7:=of_decide_eq_false (by assumption)
  have h8:¬ c.kind=8:=of_decide_eq_false (by assumption)
  have h9:c.kind=9:=of_decide_eq_true (by assumption)
  rw [if_neg h6,if_neg h7,if_neg h8,if_pos h9] at hone
  conv=>whnf
  have ht:l.take (min c.n.toNat l.length)=l.take c.n.toNat:=by
   rw [←List.take_take,List.take_length]
  refine ⟨min c.n.toNat l.length,by omega,by omega,?_⟩
  repeat' first|refine ⟨_,_,_,LeL.refl _,?_⟩|(refine fun (b:Bool) hb=>?_;cases b<;>first|exact absurd hb (by decide)|exact nfl hb|exact nfr hb|skip)|refine And.intro (a:=_≤140737488355328) ?_ ?_|refine ⟨(fun _=>rfl),?_⟩|fail
  ·show (0+((l.take (min c.n.toNat l.length)).map strV).length)*16≤140737488355328
   rw [List.length_map,List.length_take]
   omega
  ·exact hone _ ht.symm
  ·have h:true=true→l.take (min c.n.toNat l.length)=[]:=by assumption
   refine ⟨_,strV,hone _ (ht.symm.trans (h rfl))⟩
 ·have h6:¬ c.kind=6:=of_decide_eq_false (by assumption)
  have h7:¬ c.kind=7:=of_decide_eq_false (by assumption)
  have h8:c.kind=8:=of_decide_eq_true (by assumption)
  rw [if_neg h6,if_neg h7,if_pos h8] at hone
  refine ⟨l.length,rfl,⟨by omega,by omega⟩,?_⟩
  skip
  refine ⟨Bs,strV,[Lib.itoa l.length],LeL.refl _,?_⟩
  exact hone _ rfl
 ·show (0+(l.map strV).length)*16≤140737488355328
  rw [List.length_map]
  omega
 ·refine .inl ⟨l,rfl,rfl,?_⟩
  repeat' first|refine ⟨_,_,_,LeL.refl _,?_⟩|fail
  have h6:¬ c.kind=6:=of_decide_eq_false (by assumption)
  have h7:c.kind=7:=of_decide_eq_true (by assumption)
  rw [if_neg h6,if_pos h7] at hone
  exact hone _ rfl
 ·have h:true=true→l=[]:=by assumption
  refine .inr ⟨rfl,rfl,?_⟩
  skip
  have h6:¬ c.kind=6:=of_decide_eq_false (by assumption)
  have h7:c.kind=7:=of_decide_eq_true (by assumption)
  rw [if_neg h6,if_pos h7,h rfl] at hone
  exact ⟨_,strV,hone [] (by simp [onceB,Lib.compact,Lib.compactUpTo])⟩
 ·show (0+(l.map strV).length)*16≤140737488355328
  rw [List.length_map]
  omega
 ·refine .inl ⟨l,rfl,rfl,by omega,?_⟩
  repeat' first|refine ⟨_,_,_,LeL.refl _,?_⟩|fail
  have h6:c.kind=6:=of_decide_eq_true (by assumption)
  rw [if_pos h6] at hone
  exact hone _ rfl
 ·have h:true=true→l=[]:=by assumption
  refine .inr ⟨rfl,rfl,?_⟩
  skip
  have h6:c.kind=6:=of_decide_eq_true (by assumption)
  rw [if_pos h6,h rfl] at hone
  exact ⟨_,strV,hone [] (by simp [sortB])⟩
end Gv
namespace Gv
variable [Glob] [Laid]
def bytesGo:Nat→List Bs→Int
 | _,[]=>0
 | n,s::r=>if s.contains 10=true then 4 else if (s.length:Int) > 4000-n-1 then 2 else bytesGo (n+s.length+1) r
def lineBytes (l:List Bs):Bs × Int:=if bytesGo 0 l=0 then (put l,0) else ([],bytesGo 0 l)
end Gv
namespace Gv
variable [Glob] [Laid] [Nums]
def shellLine (l:List FileS) (x:LineS):Bs × Int:=if checkLine x≠0 then ([],checkLine x) else if (gatherS l x.frm).2≠0 then ([],(gatherS l x.frm).2) else lineBytes (doLines x.cmds (linesOf (gatherS l x.frm).1))
theorem checkLine_ok {x:LineS} (h:checkLine x=0):x.cmds.length≤6∧∀ c∈x.cmds,checkCmd c=0:=by
 unfold checkLine at h
 split at h
 ·cases h
 ·split at h
  ·cases h
  ·rename_i h1 h2
   exact ⟨by omega,firstBad_at h⟩
end Gv
namespace Gv
variable [Glob] [Laid] [Nums]
theorem linesC_put4 {c:Cmd} (h:checkCmd c=0) (l:List Bs) (hl:(put l).length≤4000):(put (linesC c l)).length≤4000:=by
 have h0:=put_len (l:=l) (n:=4000) hl
 unfold linesC
 split
 ·rw [put_perm (sortB_perm l)];omega
 split
 ·have:=put_sub (onceB_sublist l);omega
 split
 ·have:=itoa_len l.length ⟨by omega,by omega⟩
  simp only [put,List.length_append,List.length_cons,List.length_nil]
  omega
 split
 ·have:=put_sub (List.take_sublist c.n.toNat l);omega
 split
 ·have:=put_sub (List.drop_sublist (l.length-c.n.toNat) l);omega
 ·have:=put_filterMap h l;omega
theorem doLines_put4:∀ {cs:List Cmd} {s:List Bs},(∀ c∈cs,checkCmd c=0)→(put s).length≤4000→(put (doLines cs s)).length≤4000
 | [],s,_,h=>h
 | c::r,s,hc,h=>doLines_put4 (cs:=r) (fun d hd=>hc d (List.mem_cons_of_mem _ hd)) (linesC_put4 (hc c (List.mem_cons_self ..)) s h)
theorem bytesGo_fine4:∀ {l:List Bs} {n:Nat},NoNl l→n+(put l).length≤4000→bytesGo n l=0
 | [],n,_,_=>rfl
 | s::r,n,h,hl=>by
  simp only [put,List.length_append,List.length_cons] at hl
  rw [bytesGo,if_neg (by simpa using h s (List.mem_cons_self ..)),if_neg (by omega)]
  exact bytesGo_fine4 (fun x hx=>h x (List.mem_cons_of_mem _ hx)) (by omega)
theorem doLines_no:∀ {cs:List Cmd} {s:List Bs},(∀ c∈cs,checkCmd c=0)→NoNl s→NoNl (doLines cs s)
 | [],s,_,h=>h
 | c::r,s,hc,h=>doLines_no (cs:=r) (fun d hd=>hc d (List.mem_cons_of_mem _ hd)) (linesC_no (hc c (List.mem_cons_self ..)) h)
def allOf (F:List FileS) (f:List Bs):List Bs:=(f.map fun s=>linesOf (fileAt F s)).flatten
theorem gather_val {F:List FileS} {f:List Bs} (h:(gatherS F f).2=0):checkFiles F=0∧f.length≤4∧NoNl (allOf F f)∧(put (allOf F f)).length≤4000∧(allOf F f).length≤4000∧(gatherS F f).1=put (allOf F f)∧linesOf (gatherS F f).1=allOf F f:=by
 have hl:=gatherS_len F f
 obtain ⟨g,hg⟩:∃ g,gatherS F f=(g,0):=⟨_,Prod.ext rfl h⟩
 have hgs:gatherS F f=if checkFiles F≠0 then ([],checkFiles F) else if 4<f.length then ([],2) else gatherGo F [] f:=rfl
 have hf:checkFiles F=0:=by
  by_cases hf:checkFiles F=0
  ·exact hf
  ·rw [hgs,if_pos hf] at h
   exact h
 have h4:¬ 4<f.length:=fun h4=>by
  rw [hgs,if_neg (by rw [hf];decide),if_pos h4] at h
  cases h
 have hgg:gatherGo F (put []) f=(g,0):=by
  rw [hgs,if_neg (by rw [hf];decide),if_neg h4] at hg
  exact hg
 have hgo:=gatherGo_ok _ _ hgg
 rw [List.nil_append] at hgo
 have hno:NoNl (allOf F f):=noNl_flat fun a ha=>by
  obtain ⟨b,-,rfl⟩:=List.mem_map.1 ha
  exact linesOf_no10 _
 rw [hg] at hl ⊢
 have hgo:g=put (allOf F f):=hgo
 dsimp only at hl ⊢
 rw [hgo] at hl ⊢
 exact ⟨hf,by omega,hno,hl,put_len hl,rfl,linesOf_put hno⟩
theorem line_parts {l:LineS} (h:checkLine l=0):∀ c∈l.cmds,checkCmd c=0:=(checkLine_ok h).2
theorem shell_line {l:LineS} {F:List FileS} (hc:checkLine l=0) (hg:(gatherS F l.frm).2=0):shellLine F l=(put (doLines l.cmds (linesOf (gatherS F l.frm).1)),0):=by
 obtain ⟨g1,g2,g3,g4,g5,g6,g7⟩:=gather_val hg
 unfold shellLine
 rw [if_neg (by rw [hc];decide),if_neg (by rw [hg];decide),g7]
 unfold lineBytes
 rw [if_pos]
 have:=doLines_put4 (line_parts hc) g4
 exact bytesGo_fine4 (doLines_no (line_parts hc) g3) (by omega)
end Gv
namespace Gv
variable [Glob] [Laid]
theorem reader_first {N:List Gp.Node} {p:Port} {j k:Nat} (hj:j<N.length) (hp:p ∉ allIns (N.take j)) (hk:k<N[j].ins.length) (hq:p ∉ N[j].ins.take k) (he:p=N[j].ins[k]):readerI N p=insB N j+k∧insB N j+k<(allIns N).length:=by
 have h1:allIns N=allIns (N.take j)++(N[j].ins.take k++(p::(N[j].ins.drop (k+1)++allIns (N.drop (j+1))))):=by
  conv=>lhs;rw [←List.take_append_drop j N,allIns_app,List.drop_eq_getElem_cons hj]
  rw [show allIns (N[j]::N.drop (j+1))=N[j].ins++allIns (N.drop (j+1)) from rfl]
  conv=>lhs;rw [←List.take_append_drop k N[j].ins,List.drop_eq_getElem_cons hk,←he]
  simp
 have h2:(N[j].ins.take k).length=k:=by rw [List.length_take];omega
 refine ⟨?_,?_⟩
 ·unfold readerI insB
  rw [h1,List.idxOf_append,if_neg hp,List.idxOf_append,if_neg hq,List.idxOf_cons_self,h2]
  omega
 ·rw [h1]
  simp only [List.length_append,List.length_cons,h2]
  unfold insB
  omega
theorem reader_none {N:List Gp.Node} {p:Port} (h:p ∉ allIns N):¬ readerI N p<(allIns N).length:=fun e=>h (List.idxOf_lt_length_iff.1 e)
theorem readerX_ca:callable Tryz.prog 205=true:=by kernel_rfl
def readerX_S:Spec:=fun args K=>∃ (N:List Gp.Node) (p:Port),args=[.agg [.sl nodeV N],portV p]∧(allIns N).length≤1000000∧K (.int .i64 (if readerI N p<(allIns N).length then (readerI N p:Int) else -1))
noncomputable def readerX_lib:List (Nat × Spec):=[]
noncomputable def readerX_fns:List (Nat × FnI):=[]
noncomputable def readerX_prims:List (Nat × PSpec):=[]
theorem readerX_E:EnvOK ⟨Tryz.prog,tys,readerX_lib,readerX_fns,readerX_prims,[(173,[true,true])]⟩:=env_ok mixed0 tys0 .nil .nil .nil (by kernel_rfl)
theorem readerX_ok:Pure Tryz.prog 205 readerX_S:=by
 refine pure_by readerX_E 6 (fi:={fn:=Tryz.f205,hooks:=[],draws:=[]}) ⟨Tryz.func205,by kernel_rfl,by kernel_rfl⟩ ?_
 rintro _ K ⟨N,p,rfl,hn,hK⟩
 replace hK:∀ r,r=.int .i64 (if readerI N p<(allIns N).length then (readerI N p:Int) else -1)→K r:=fun r h=>h ▸ hK
 repeat' first|(refine fun (hl:_≤MAXL)=>?_)|fail
 conv=>whnf
 refine loop_live [3,11,12] (σ:=Nat) (fun j=>[(13,.int .i64 j),(5,.int .i64 (insB N j:Nat))]) (fun _=>[.box [.sl nodeV N],.box [.int .i64 p.node,.int .i64 p.out]]) (fun j=>j≤N.length∧p ∉ allIns (N.take j)) (fun j=>N.length-j) 0 ?_
 conv=>whnf
 refine ⟨(by (refine wk_sel [some 0,some 1] rfl rfl ?_ ?_<;>(repeat' first|exact True.intro|exact rfl|exact .inl rfl|exact .inr rfl|refine And.intro ?_ ?_|fail))),⟨Nat.zero_le _,by simp [allIns]⟩,fun j hj=>?_⟩
 obtain ⟨hj,hp⟩:=hj
 repeat' first|(refine fun (b:Bool) hb=>?_;cases b<;>first|exact absurd hb (by decide)|exact nfl hb|exact nfr hb|skip)|(refine fun (hl:_≤MAXL)=>?_)|refine ⟨_,rfl,?_,rfl,?_⟩|fail
 ·have hjl:j=N.length := by
   have h:=of_decide_eq_false (by assumption:decide ((j:Int)<(N.length:Int))=false)
   omega
  subst hjl
  rw [List.take_length] at hp
  conv=>whnf
  skip
  exact hK _ (by rw [if_neg (reader_none hp)])
 ·have h:=of_decide_eq_true (by assumption:decide ((j:Int)<(N.length:Int))=true)
  omega
 have hj2:j<N.length:=by
  have h:=of_decide_eq_true (by assumption:decide ((j:Int)<(N.length:Int))=true)
  omega
 have hnj:insB N (j+1)=insB N j+N[j].ins.length:=by
  unfold insB
  rw [List.take_succ_eq_append_getElem hj2,allIns_app,List.length_append]
  simp [allIns]
 have hall:insB N (j+1)≤(allIns N).length:=by
  unfold insB
  conv=>rhs;rw [←List.take_append_drop (j+1) N,allIns_app,List.length_append]
  omega
 conv=>whnf
 skip
 conv=>whnf
 refine loop_live [3,11,12,13,18,19] (σ:=Nat) (fun k=>[(20,.int .i64 k),(5,.int .i64 ((insB N j+k:Nat):Int))]) (fun _=>[.box [.sl nodeV N],.box [.int .i64 p.node,.int .i64 p.out]]) (fun k=>k≤N[j].ins.length∧p ∉ N[j].ins.take k) (fun k=>N[j].ins.length-k) 0 ?_
 conv=>whnf
 refine ⟨(by (refine wk_sel [some 0,some 1] rfl rfl ?_ ?_<;>(repeat' first|exact True.intro|exact rfl|exact .inl rfl|exact .inr rfl|refine And.intro ?_ ?_|fail))),⟨Nat.zero_le _,by simp⟩,fun k hk=>?_⟩
 obtain ⟨hk,hq⟩:=hk
 repeat' first|(refine fun (b:Bool) hb=>?_;cases b<;>first|exact absurd hb (by decide)|exact nfl hb|exact nfr hb|skip)|refine And.intro (a:=I64 _) ?_ ?_|refine ⟨_,rfl,?_,rfl,?_⟩|fail
 ·have hM:N.length≤MAXL:=by assumption
  unfold I64;unfold MAXL at hM;omega
 ·have hkl:k=N[j].ins.length := by
   have h:=of_decide_eq_false (by assumption:decide ((k:Int)<(N[j].ins.length:Int))=false)
   omega
  subst hkl
  rw [List.take_length] at hq
  refine ⟨j+1,?_,⟨by omega,?_⟩,by omega⟩
  ·show Wk _ _ _ ([(13,.int .i64 ((j+1:Nat):Int)),(5,.int .i64 ((insB N (j+1):Nat):Int))]++_) _
   rw [hnj]
   exact (by (refine wk_sel [some 0,some 1] rfl rfl ?_ ?_<;>(repeat' first|exact True.intro|exact rfl|exact .inl rfl|exact .inr rfl|refine And.intro ?_ ?_|fail)))
  ·rw [List.take_succ_eq_append_getElem hj2,allIns_app]
   intro h
   rcases List.mem_append.1 h with h|h
   ·exact hp h
   ·exact hq (by simpa [allIns] using h)
 ·have h:=of_decide_eq_true (by assumption:decide ((k:Int)<(N[j].ins.length:Int))=true)
  omega
 all_goals
  have hk2:k<N[j].ins.length:=by
   have h:=of_decide_eq_true (by assumption:decide ((k:Int)<(N[j].ins.length:Int))=true)
   omega
 ·unfold I64;omega
 ·unfold I64;omega
 ·refine ⟨k+1,(by (refine wk_sel [some 0,some 1] rfl rfl ?_ ?_<;>(repeat' first|exact True.intro|exact rfl|exact .inl rfl|exact .inr rfl|refine And.intro ?_ ?_|fail))),⟨by omega,?_⟩,by omega⟩
  rw [List.take_succ_eq_append_getElem hk2]
  intro h
  rcases List.mem_append.1 h with h|h
  ·exact hq h
  ·have e:p=N[j].ins[k]:=by simpa using h
   have e1:p.node=N[j].ins[k].node:=by rw [←e]
   have e2:p.out=N[j].ins[k].out:=by rw [←e]
   simp_all
 ·have e:p=N[j].ins[k] := by
   have h1:p.node=N[j].ins[k].node∧p.out=N[j].ins[k].out:=by grind
   rcases hx:N[j].ins[k] with ⟨a,b⟩
   rcases p with ⟨c,d⟩
   rw [hx] at h1
   simp only at h1
   rw [h1.1,h1.2]
  obtain ⟨r1,r2⟩:=reader_first hj2 hp hk2 hq e
  conv=>whnf
  skip
  refine hK _ ?_
  rw [r1,if_pos r2]
end Gv
namespace Gv
variable [Glob] [Laid]
def pipeCheck (p:PipeS):Int :=
 if p.room<0∨1000<p.room then 3 else if (0<p.room∧p.room<p.b.length)∨40000<p.b.length then 2 else if p.shut=true∧0<p.b.length then 4 else 0
theorem check_ca:callable Tryz.prog 196=true:=by kernel_rfl
def check_S:Spec:=fun args K=>∃ p,args=[pipeV p]∧K (.int .i64 (pipeCheck p))
noncomputable def check_lib:List (Nat × Spec):=[]
noncomputable def check_fns:List (Nat × FnI):=[]
noncomputable def check_prims:List (Nat × PSpec):=[]
theorem check_E:EnvOK ⟨Tryz.prog,tys,check_lib,check_fns,check_prims,[]⟩:=env_ok mixed0 tys0 .nil .nil .nil rfl
theorem check_ok:Pure Tryz.prog 196 check_S:=by
 refine pure_by check_E 6 (fi:={fn:=Tryz.f196,hooks:=[],draws:=[]}) ⟨Tryz.func196,by kernel_rfl,by kernel_rfl⟩ ?_
 rintro _ K ⟨p,rfl,hK⟩
 replace hK:∀ r,r=.int .i64 (pipeCheck p)→K r:=fun r h=>h ▸ hK
 repeat' first|(refine fun (b:Bool) hb=>?_;cases b<;>first|exact absurd hb (by decide)|exact nfl hb|exact nfr hb|skip)|(refine fun (hl:_≤MAXL)=>?_)|fail
 all_goals (refine hK _ ?_;simp only [pipeCheck];congr 1;grind)
end Gv
namespace Gv
variable [Glob] [Laid]
theorem concatB_ca:callable Tryz.prog 296=true:=by kernel_rfl
def concatB_S:Spec:=fun args K=>∃ a:List (List UInt8),args=[.sl blV a]∧a.flatten.length≤1000000∧K (.sl byteV a.flatten)
noncomputable def concatB_lib:List (Nat × Spec):=[]
noncomputable def concatB_fns:List (Nat × FnI):=[(315,{fn:=Tryz.f315,hooks:=[],draws:=[]})]
noncomputable def concatB_prims:List (Nat × PSpec):=[]
theorem concatB_E:EnvOK ⟨Tryz.prog,tys,concatB_lib,concatB_fns,concatB_prims,[]⟩:=env_ok mixed0 tys0 .nil (.cons (by kernel_rfl) ⟨Tryz.func315,by kernel_rfl,by kernel_rfl⟩ .nil) .nil rfl
theorem concatB_ok:Pure Tryz.prog 296 concatB_S:=by
 refine pure_by concatB_E 6 (fi:={fn:=Tryz.f296,hooks:=[10],draws:=[]}) ⟨Tryz.func296,by kernel_rfl,by kernel_rfl⟩ ?_
 rintro _ K ⟨x,rfl,hx,hK⟩
 replace hK:∀ p,p=.sl byteV x.flatten→K p:=fun r h=>h ▸ hK
 obtain ⟨f,hf⟩:∃ f:Nat→List UInt8,∀ i,f i=(x.take i).flatten:=⟨_,fun _=>rfl⟩
 have f0:f 0=[]:=by simp [hf]
 have fS:∀ i (h:i<x.length),f (i+1)=f i++x[i]:=fun i h=>by
  rw [hf,hf,List.take_succ_eq_append_getElem h]
  simp only [List.flatten_append,List.flatten_cons,List.flatten_nil,List.append_nil]
 have fN:∀ i,x.length≤i→f i=x.flatten:=fun i h=>by simp [hf,List.take_of_length_le h]
 have fl:∀ i,(f i).length≤1000000:=fun i=>by
  rw [←List.take_append_drop i x] at hx
  simp only [List.flatten_append,List.length_append] at hx
  rw [hf];omega
 clear hf
 refine fun (hl:_≤MAXL)=>?_
 conv=>whnf
 refine loop_intro (σ:=Nat) (fun i=>[(0,.sl blV x),(2,.nil),(9,.sl blV x),(10,.int .i64 x.length),(11,.int .i64 i),(3,.int .i64 ((f i).length:Nat))]) (fun _=>[]) (fun i=>i≤x.length) (fun i=>x.length-i) 0 (wk_sel [] rfl rfl trivial ?_) (Nat.zero_le _) ?_
 ·simp only [f0]
  (repeat' first|exact True.intro|exact rfl|exact .inl rfl|exact .inr rfl|refine And.intro ?_ ?_|fail)
 intro i hi
 have hs:=fl i
 repeat' first|(refine fun (b:Bool) hb=>?_;cases b<;>first|exact absurd hb (by decide)|exact nfl hb|exact nfr hb|skip)|(refine fun (hl:_≤MAXL)=>?_)|refine And.intro (a:=I64 _) ?_ ?_|refine ⟨_,rfl,?_,rfl,?_⟩|fail
 ·conv=>whnf
  refine join_intro (σ:=Unit) (fun _=>[(0,.sl blV x),(2,.nil),(6,.own 0)]) (fun _=>[.row 1 []]) (fun _=>True) ?_ ?_
  ·repeat' first|(refine fun (b:Bool) hb=>?_;cases b<;>first|exact absurd hb (by decide)|exact nfl hb|exact nfr hb|skip)|(refine fun (hl:_≤MAXL)=>?_)|refine And.intro (a:=I64 _) ?_ ?_|refine ⟨rfl,?_⟩|fail
   ·unfold I64;omega
   ·unfold I64;omega
   ·refine ⟨(),wk_sel [none] rfl rfl trivial ?_,trivial⟩
    (repeat' first|exact True.intro|exact rfl|exact .inl rfl|exact .inr rfl|refine And.intro ?_ ?_|fail)
   ·refine ⟨(f i).length,by simp,by grind,by simp only [Nat.mul_one];omega,?_⟩
    refine fun _=>?_
    refine ⟨0,rfl,Nat.zero_le _,?_⟩
    refine ⟨(),wk_sel [some 1] rfl rfl ⟨rfl,trivial⟩ ?_,trivial⟩
    (repeat' first|exact True.intro|exact rfl|exact .inl rfl|exact .inr rfl|refine And.intro ?_ ?_|fail)
  intro _ _
  refine fun (hl:_≤MAXL)=>?_
  conv=>whnf
  refine loop_intro (σ:=Nat) (fun i=>[(0,.sl blV x),(2,.nil),(6,.own 0),(25,.sl blV x),(26,.int .i64 x.length),(27,.int .i64 i)]) (fun i=>[.row 1 ((f i).map byteV)]) (fun i=>i≤x.length) (fun i=>x.length-i) 0 (wk_sel [some 0] rfl rfl ⟨?_,trivial⟩ ?_) (Nat.zero_le _) ?_
  ·rw [f0];exact rfl
  ·(repeat' first|exact True.intro|exact rfl|exact .inl rfl|exact .inr rfl|refine And.intro ?_ ?_|fail)
  intro i hi
  have hs:=fl i
  repeat' first|refine ⟨_,_,_,LeL.refl _,?_⟩|(refine fun (b:Bool) hb=>?_;cases b<;>first|exact absurd hb (by decide)|exact nfl hb|exact nfr hb|skip)|refine And.intro (a:=I64 _) ?_ ?_|refine And.intro (a:=_≤140737488355328) ?_ ?_|refine ⟨_,rfl,?_,rfl,?_⟩|refine ⟨(fun _=>rfl),?_⟩|fail
  ·refine hK _ ?_
   rw [fN i (by grind)]
  ·grind
  ·have:=fl (i+1)
   rw [fS i (by grind)] at this
   simp only [List.length_append,List.length_map,blV,elsOf] at this ⊢
   omega
  ·unfold I64;grind
  ·refine ⟨i+1,?_,?_,?_⟩
   ·refine wk_sel [some 1] rfl rfl ⟨?_,trivial⟩ ?_
    ·rw [fS i (by grind),List.map_append]
     exact rfl
    ·(repeat' first|exact True.intro|exact rfl|exact .inl rfl|exact .inr rfl|refine And.intro ?_ ?_|fail)
   ·grind
   ·grind
 ·grind
 ·unfold I64;grind
 ·unfold I64;grind
 ·refine ⟨i+1,?_,?_,?_⟩
  ·refine wk_sel [] rfl rfl trivial ?_
   rw [fS i (by grind)]
   simp only [List.length_append]
   (repeat' first|exact True.intro|exact rfl|exact .inl rfl|exact .inr rfl|refine And.intro ?_ ?_|fail)
  ·grind
  ·grind
end Gv
namespace Gv
variable [Glob] [Laid]
def noPipe:PipeS:=⟨[],0,false,false⟩
def pipeTake (p:PipeS) (n:Nat):Int:=min (if 0<p.room then min (n:Int) (p.room-p.b.length) else n) (40000-p.b.length)
def pipeWrite (p:PipeS) (b:List UInt8):PipeS × Int × Int :=
 if pipeCheck p≠0 then (noPipe,0,pipeCheck p) else if p.closed=true then (noPipe,0,7) else if p.shut=true then (p,b.length,0) else
  ({p with b:=p.b++b.take (pipeTake p b.length).toNat},pipeTake p b.length,0)
theorem pipe_small {p:PipeS} (h:pipeCheck p=0):p.b.length≤40000∧0≤p.room∧p.room≤1000∧(0<p.room→p.b.length≤p.room):=by
 unfold pipeCheck at h
 grind
theorem write_ca:callable Tryz.prog 257=true:=by kernel_rfl
def write_S:Spec:=fun args K=>∃ p b,args=[pipeV p,.sl byteV b]∧b.length≤900000∧K (.tup [pipeV (pipeWrite p b).1,.int .i64 (pipeWrite p b).2.1,.int .i64 (pipeWrite p b).2.2])
noncomputable def write_lib:List (Nat × Spec):=[(196,check_S),(126,cloneB_S),(296,concatB_S)]
noncomputable def write_fns:List (Nat × FnI):=[(295,{fn:=Tryz.f295,hooks:=[],draws:=[(5,[0,0,2,6,14,0,32,96,224,480,1022,2047,4095]),(7,[0,0,2,6,14,0,0,96,254,510,1023,2047,4095])]})]
noncomputable def write_prims:List (Nat × PSpec):=[]
theorem write_E:EnvOK ⟨Tryz.prog,tys,write_lib,write_fns,write_prims,[]⟩:=env_ok mixed0 tys0 (.cons check_ca check_ok (.cons cloneB_ca cloneB_ok (.cons concatB_ca concatB_ok .nil))) (.cons (by kernel_rfl) ⟨Tryz.func295,by kernel_rfl,by kernel_rfl⟩ .nil) .nil rfl
theorem write_ok:Pure Tryz.prog 257 write_S:=by
 refine pure_by write_E 6 (fi:={fn:=Tryz.f257,hooks:=[],draws:=[]}) ⟨Tryz.func257,by kernel_rfl,by kernel_rfl⟩ ?_
 rintro _ K ⟨p,b,rfl,hb0,hK⟩
 replace hK:∀ r,r=.tup [pipeV (pipeWrite p b).1,.int .i64 (pipeWrite p b).2.1,.int .i64 (pipeWrite p b).2.2]→K r:=fun r h=>h ▸ hK
 refine ⟨p,rfl,?_⟩
 repeat' first|(refine fun (b:Bool) hb=>?_;cases b<;>first|exact absurd hb (by decide)|exact nfl hb|exact nfr hb|skip)|refine ⟨UInt8,byteV,?_⟩|fail
 ·have hc:pipeCheck p=0:=by grind
  have hs:=pipe_small hc
  refine ⟨p.b,rfl,by omega,?_⟩
  have hn0:0≤pipeTake p b.length:=by unfold pipeTake;grind
  have hn1:pipeTake p b.length≤b.length:=by unfold pipeTake;grind
  repeat' first|exact True.intro|(refine fun (b:Bool) hb=>?_;cases b<;>first|exact absurd hb (by decide)|exact nfl hb|exact nfr hb|skip)|(refine fun (hl:_≤MAXL)=>?_)|refine And.intro (a:=I64 _) ?_ ?_|refine ⟨_,⟨rfl,rfl⟩,?_⟩|refine ⟨_,And.intro (a:=I64 _) ?_ ⟨rfl,rfl⟩,?_⟩|refine ⟨_,(fun _=>⟨rfl,rfl⟩),?_⟩|refine And.intro (a:=chkPast _ _ _ _ _ _ _ _) ?_ ?_|fail
  any_goals (unfold I64;omega)
  iterate 2
   rotate_left
   refine ⟨_,⟨fun _=>rfl,(pipeTake p b.length).toNat,?_,?_,rfl,rfl⟩,?_⟩
   ·grind [pipeTake]
   ·omega
   skip
   refine ⟨_,⟨List UInt8,blV,[p.b,b.take (pipeTake p b.length).toNat],LeL.refl _,rfl,rfl⟩,?_⟩
   refine ⟨_,⟨[p.b,b.take (pipeTake p b.length).toNat],rfl,?_,rfl,rfl⟩,?_⟩
   ·simp
    omega
   repeat' first|exact True.intro|refine ⟨_,⟨rfl,rfl⟩,?_⟩|refine ⟨_,_,⟨rfl,rfl⟩,?_⟩|refine And.intro (a:=chkPend _ _ _ _ _ _) ?_ ?_|fail
   ·refine hK _ ?_
    have e:pipeWrite p b=(⟨p.b++b.take (pipeTake p b.length).toNat,p.room,p.closed,p.shut⟩,pipeTake p b.length,0):=by unfold pipeWrite;grind
    rw [e]
    simp only [pipeV,List.flatten_cons,List.flatten_nil,List.append_nil]
    congr 3
    grind [pipeTake]
  ·refine hK _ ?_
   grind [pipeWrite,pipeV]
 all_goals (refine hK _ ?_;grind [pipeWrite,noPipe,pipeV])
end Gv
namespace Gv
variable [Glob] [Laid]
theorem check_link (p:PipeS):pipeCheck p=checkPipe p:=by
 unfold pipeCheck checkPipe
 have h:(0<p.b.length)↔p.b≠[]:=List.length_pos_iff
 simp only [h]
theorem write_link {p:PipeS} {b:Bs} (hb:b≠[]) :
  (((pipeWrite p b).2.2=0∧0<(pipeWrite p b).2.1)↔(checkPipe p=0∧p.closed=false∧0<takeN p b)) ∧
  (checkPipe p=0→p.closed=false→(pipeWrite p b).1=takeP p b∧(pipeWrite p b).2.1=(takeN p b:Int)):=by
 have hbl:0<b.length:=List.length_pos_iff.2 hb
 unfold pipeWrite
 rw [check_link]
 by_cases hc:checkPipe p=0
 ·have hs:=pipe_small ((check_link p).trans hc)
  rw [if_neg (by rw [hc];decide)]
  cases hcl:p.closed with
  | true=>simp
  | false =>
   rw [if_neg (by decide)]
   cases hsh:p.shut with
   | true =>
    rw [if_pos rfl]
    unfold takeN takeP
    rw [hsh,if_pos rfl,if_pos rfl]
    simp [hc,hbl]
   | false =>
    rw [if_neg (by decide)]
    have e:pipeTake p b.length=(takeN p b:Int):=by
     unfold pipeTake takeN
     simp only [hsh,Bool.false_eq_true,if_false]
     by_cases hr:0<p.room
     ·have:=hs.2.2.2 hr
      simp only [hr,if_true]
      omega
     ·simp only [hr,if_false]
      omega
    dsimp only
    rw [e]
    unfold takeP
    rw [hsh,if_neg (by decide),Int.toNat_natCast]
    refine ⟨by constructor<;>(intro h;refine ⟨?_,?_⟩<;>first|exact hc|rfl|omega|(refine ⟨rfl,?_⟩;omega)),fun _ _=>⟨?_,rfl⟩⟩
    rcases p with ⟨pb,room,cl,sh⟩
    dsimp only at hcl hsh
    subst hcl hsh
    rfl
 ·rw [if_pos hc]
  simp [hc]
theorem writeF_ca:callable Tryz.prog 204=true:=by kernel_rfl
def writeF_P:PSpec:=fun args rows K=>∃ (m:MachS) (i:Nat) (els:List V),args=[.ptr 0 0 0,.int .i64 i]∧FocOK m i els∧rows=focR m i els∧(∀ k ex,k<(pr m i).out.length→canW m i k=true→(∀ j,j<k→canW m i j=false)→K (.lit true) (focR (doW m i k) i els++ex))∧((∀ k,k<(pr m i).out.length→canW m i k=false)→∀ ex,K (.lit false) (focR m i els++ex))
noncomputable def writeF_lib:List (Nat × Spec):=[(205,readerX_S),(257,write_S)]
noncomputable def writeF_fns:List (Nat × FnI):=[]
noncomputable def writeF_prims:List (Nat × PSpec):=[]
theorem writeF_E:EnvOK ⟨Tryz.prog,tys,writeF_lib,writeF_fns,writeF_prims,[]⟩:=env_ok mixed0 tys0 (.cons readerX_ca readerX_ok (.cons write_ca write_ok .nil)) .nil .nil rfl
theorem writeF_prim:PrimOK Tryz.prog 204 writeF_P:=by
 refine prim_by writeF_E 6 writeF_ca (fi:={fn:=Tryz.f204,hooks:=[],draws:=[(8,[0,1,3,7,0,0,32,96,224,0,992,2016,4064,0,0,0,0,98304,24575,286719,1048575,2097151])]}) ⟨Tryz.func204,by kernel_rfl,by kernel_rfl⟩ ?_
 rintro args rows K ⟨m,i,els,rfl,h,rfl,hT,hF⟩
 have hei:(els.set i (procF (pr m i)))[i]?=some (procF (pr m i)):=List.getElem?_set_self (by rw [h.nl];exact h.lt)
 have hel:(els.set i (procF (pr m i))).length=m.g.length:=by rw [List.length_set,h.nl]
 have hpe:=h.pe
 unfold focR
 repeat' first|refine ⟨rfl,?_⟩|fail
 refine ⟨i,rfl,by rw [hel];exact h.lt,?_⟩
 conv=>whnf
 refine ⟨_,hei,?_⟩
 repeat' first|(refine fun (hl:_≤MAXL)=>?_)|fail
 conv=>whnf
 refine loop_live [0,1,18,19] (σ:=Nat) (fun k=>[(20,.int .i64 k)]) (fun _=>[.box [.sl nodeV m.g,.sl fileV m.f,.own 1,.own 2,.sl byteV m.sunk],.row 4 (m.pipes.map pipeV),.rowq 5 (els.set i (procF (pr m i))),.row 1 ((pr m i).got.map blV),.row 1 ((pr m i).out.map blV)]) (fun k=>k≤(pr m i).out.length∧∀ j,j<k→canW m i j=false) (fun k=>(pr m i).out.length-k) 0 ?_
 conv=>whnf
 refine ⟨(by (refine wk_sel [some 0,some 1,some 2,some 3,some 4] rfl rfl ?_ ?_<;>(repeat' (first|exact wkEls_foc hpe rfl rfl|exact True.intro|exact rfl|exact Or.inl rfl|exact Or.inr rfl|refine And.intro ?_ ?_|fail)))),⟨Nat.zero_le _,fun j hj=>by omega⟩,fun k hk=>?_⟩
 obtain ⟨hk,hno⟩:=hk
 repeat' first|(refine fun (b:Bool) hb=>?_;cases b<;>first|exact absurd hb (by decide)|exact nfl hb|exact nfr hb|skip)|refine ⟨rfl,?_⟩|fail
 ·have hkl:k=(pr m i).out.length := by
   have h:=of_decide_eq_false (by assumption:decide ((k:Int)<(((pr m i).out.map blV).length:Int))=false)
   rw [List.length_map] at h
   omega
  subst hkl
  conv=>whnf
  skip
  exact hF hno []
 have hk2:k<(pr m i).out.length:=by
  have h:=of_decide_eq_true (by assumption:decide ((k:Int)<(((pr m i).out.map blV).length:Int))=true)
  rw [List.length_map] at h
  omega
 have hgk:((pr m i).out.map blV)[k]?=some (blV (pr m i).out[k]):=by rw [List.getElem?_map,List.getElem?_eq_getElem hk2];rfl
 have hok:outK m i k=(pr m i).out[k]:=by unfold outK;rw [List.getD_eq_getElem?_getD,List.getElem?_eq_getElem hk2];rfl
 refine ⟨k,rfl,by rw [List.length_map];exact hk2,?_⟩
 conv=>whnf
 refine ⟨_,hgk,?_⟩
 repeat' first|(refine fun (b:Bool) hb=>?_;cases b<;>first|exact absurd hb (by decide)|exact nfl hb|exact nfr hb|skip)|(refine fun (hl:_≤MAXL)=>?_)|refine And.intro (a:=I64 _) ?_ ?_|fail
 rotate_left
 ·have hM:((pr m i).out.map blV).length≤MAXL:=by assumption
  rw [List.length_map] at hM
  unfold I64;unfold MAXL at hM;omega
 ·have he:(pr m i).out[k]=[] := by
   have h:=of_decide_eq_true (by assumption:decide ((((pr m i).out[k]).length:Int)=0)=true)
   exact List.length_eq_zero_iff.1 (by omega)
  refine ⟨k+1,(by (refine wk_sel [some 0,some 1,some 2,some 3,some 4] rfl rfl ?_ ?_<;>(repeat' (first|exact wkEls_foc hpe rfl rfl|exact True.intro|exact rfl|exact Or.inl rfl|exact Or.inr rfl|refine And.intro ?_ ?_|fail)))),⟨by omega,fun j hj=>?_⟩,by omega⟩
  rcases Nat.lt_or_ge j k with h2|h2
  ·exact hno j h2
  ·obtain rfl:j=k:=by omega
   unfold canW
   rw [hok,he]
   simp
 have hne:(pr m i).out[k]≠[]:=by
  have h:=of_decide_eq_false (by assumption:decide ((((pr m i).out[k]).length:Int)=0)=false)
  intro e
  rw [e] at h
  exact h rfl
 have hrl:=rdr_lt h hk2
 have hrq:rdr m i k<m.pipes.length:=by rw [h.nq];exact hrl
 have hgq:(m.pipes.map pipeV)[rdr m i k]?=some (pipeV (qu m (rdr m i k))):=by
  rw [List.getElem?_map,List.getElem?_eq_getElem hrq]
  unfold qu
  rw [List.getD_eq_getElem?_getD,List.getElem?_eq_getElem hrq]
  rfl
 conv=>whnf
 skip
 refine ⟨m.g,⟨i,k⟩,rfl,allIns_small h.g,?_⟩
 rw [show readerI m.g ⟨(i:Int),(k:Int)⟩=rdr m i k from rfl,if_pos hrl]
 repeat' first|refine ⟨rfl,?_⟩|fail
 refine ⟨rdr m i k,rfl,by rw [List.length_map];exact hrq,?_⟩
 conv=>whnf
 refine ⟨_,hgq,?_⟩
 skip
 have hb9:((pr m i).out[k]).length≤900000:=by
  have:=h.big (pr m i).out[k] (List.mem_append_right _ (List.getElem_mem hk2))
  omega
 refine ⟨qu m (rdr m i k),(pr m i).out[k],rfl,hb9,?_⟩
 obtain ⟨w1,w2⟩:=write_link (p:=qu m (rdr m i k)) hne
 have hcw:canW m i k=true↔((pipeWrite (qu m (rdr m i k)) (pr m i).out[k]).2.2=0∧0<(pipeWrite (qu m (rdr m i k)) (pr m i).out[k]).2.1):=by
  rw [w1]
  unfold canW
  rw [hok]
  simp only [Bool.and_eq_true,decide_eq_true_eq,Bool.not_eq_true']
  constructor
  ·rintro ⟨⟨⟨-,h1⟩,h2⟩,h3⟩;exact ⟨h1,h2,h3⟩
  ·rintro ⟨h1,h2,h3⟩;exact ⟨⟨⟨hne,h1⟩,h2⟩,h3⟩
 have hgo:∀ {b:Bool},canW m i k=b→b=false→∀ j,j<k+1→canW m i j=false:=fun e e' j hj=>by
  rcases Nat.lt_or_ge j k with h2|h2
  ·exact hno j h2
  ·obtain rfl:j=k:=by omega
   rw [e,e']
 repeat' first|exact True.intro|(refine fun (b:Bool) hb=>?_;cases b<;>first|exact absurd hb (by decide)|exact nfl hb|exact nfr hb|skip)|refine And.intro (a:=I64 _) ?_ ?_|refine ⟨_,⟨rfl,rfl⟩,?_⟩|refine And.intro (a:=chkPast _ _ _ _ _ _ _ _) ?_ ?_|fail
 ·have hM:((pr m i).out.map blV).length≤MAXL:=by assumption
  rw [List.length_map] at hM
  unfold I64;unfold MAXL at hM;omega
 ·have h0:=of_decide_eq_false (by assumption:decide ((pipeWrite (qu m (rdr m i k)) (pr m i).out[k]).2.2=0)=false)
  refine ⟨k+1,(by (refine wk_sel [some 0,some 1,some 2,some 3,some 4] rfl rfl ?_ ?_<;>(repeat' (first|exact wkEls_foc hpe rfl rfl|exact True.intro|exact rfl|exact Or.inl rfl|exact Or.inr rfl|refine And.intro ?_ ?_|fail)))),⟨by omega,hgo rfl ?_⟩,by omega⟩
  rw [Bool.eq_false_iff]
  exact fun e=>h0 (hcw.1 e).1
 ·have hM:((pr m i).out.map blV).length≤MAXL:=by assumption
  rw [List.length_map] at hM
  unfold I64;unfold MAXL at hM;omega
 ·have h0:=of_decide_eq_false (by assumption:decide (0<(pipeWrite (qu m (rdr m i k)) (pr m i).out[k]).2.1)=false)
  refine ⟨k+1,(by (refine wk_sel [some 0,some 1,some 2,some 3,some 4] rfl rfl ?_ ?_<;>(repeat' (first|exact wkEls_foc hpe rfl rfl|exact True.intro|exact rfl|exact Or.inl rfl|exact Or.inr rfl|refine And.intro ?_ ?_|fail)))),⟨by omega,hgo rfl ?_⟩,by omega⟩
  rw [Bool.eq_false_iff]
  exact fun e=>h0 (hcw.1 e).2
 have hcan:canW m i k=true:=hcw.2 ⟨of_decide_eq_true (by assumption),of_decide_eq_true (by assumption)⟩
 have hw:=w1.1 (hcw.1 hcan)
 obtain ⟨w3,w4⟩:=w2 hw.1 hw.2.1
 conv=>whnf
 skip
 apply Exists.intro
 apply And.intro
 ·repeat' first|refine ⟨_,rfl,?_,rfl,?_⟩|refine ⟨rfl,?_⟩|fail
  ·rw [hel];exact h.lt
  ·exact rfl
 conv=>whnf
 refine ⟨trivial,?_⟩
 conv=>whnf
 apply Exists.intro
 apply And.intro
 ·repeat' first|refine ⟨rfl,?_⟩|fail
  exact rfl
 conv=>whnf
 apply Exists.intro
 apply And.intro
 ·conv=>whnf
  refine ⟨_,hei,?_⟩
  repeat' first|refine ⟨rfl,?_⟩|fail
  exact rfl
 conv=>whnf
 refine ⟨trivial,?_⟩
 conv=>whnf
 repeat' first|exact True.intro|refine ⟨_,⟨rfl,rfl⟩,?_⟩|refine And.intro (a:=chkPast _ _ _ _ _ _ _ _) ?_ ?_|fail
 conv=>whnf
 skip
 apply Exists.intro
 apply And.intro
 ·refine ⟨fun _=>rfl,takeN (qu m (rdr m i k)) (pr m i).out[k],w4,?_,?_⟩
  ·have:=hw.2.2
   unfold takeN
   split
   ·exact Nat.le_refl _
   ·split<;>omega
  ·exact ⟨rfl,rfl⟩
 conv=>whnf
 skip
 apply Exists.intro
 apply And.intro
 ·repeat' first|refine ⟨_,rfl,?_,rfl,?_⟩|refine ⟨rfl,?_⟩|fail
  ·rw [List.length_map];exact hrq
  ·exact rfl
 conv=>whnf
 refine ⟨trivial,?_⟩
 conv=>whnf
 skip
 apply Exists.intro
 apply Exists.intro
 apply And.intro
 ·conv=>whnf
  refine ⟨by rw [List.length_map];exact hrq,?_⟩
  exact ⟨rfl,rfl⟩
 conv=>whnf
 repeat' first|exact True.intro|refine And.intro (a:=chkPend _ _ _ _ _ _) ?_ ?_|fail
 conv=>whnf
 apply Exists.intro
 apply And.intro
 ·repeat' first|refine ⟨_,rfl,?_,rfl,?_⟩|refine ⟨rfl,?_⟩|fail
  ·rw [List.length_map];exact hk2
  ·exact rfl
 conv=>whnf
 repeat' first|exact True.intro|refine And.intro (a:=chkPast _ _ _ _ _ _ _ _) ?_ ?_|fail
 conv=>whnf
 apply Exists.intro
 apply Exists.intro
 apply And.intro
 ·conv=>whnf
  refine ⟨by rw [List.length_map];exact hk2,?_⟩
  exact ⟨rfl,rfl⟩
 conv=>whnf
 repeat' first|exact True.intro|refine And.intro (a:=chkPend _ _ _ _ _ _) ?_ ?_|fail
 conv=>whnf
 skip
 have hpi:pr (doW m i k) i=setOut (pr m i) k ((outK m i k).drop (takeN (qu m (rdr m i k)) (outK m i k))):=by
  unfold doW
  rw [pr_setP (by show i<m.p.length;rw [h.np];exact h.lt),if_pos rfl]
 have e:focR (doW m i k) i els=[.box [.sl nodeV m.g,.sl fileV m.f,.own 1,.own 2,.sl byteV m.sunk],.row 4 ((m.pipes.map pipeV).set (rdr m i k) (pipeV (pipeWrite (qu m (rdr m i k)) (pr m i).out[k]).1)),.rowq 5 (els.set i (procF (pr m i))),.row 1 ((pr m i).got.map blV),.row 1 (((pr m i).out.map blV).set k (blV ((pr m i).out[k].drop (takeN (qu m (rdr m i k)) (pr m i).out[k]))))]:=by
  unfold focR
  rw [hpi,w3,←hok,←List.map_set,←List.map_set]
  rfl
 have hfin:=hT k [.box (pipeV (pipeWrite (qu m (rdr m i k)) (pr m i).out[k]).1).cells] hk2 hcan hno
 rw [e] at hfin
 exact hfin
end Gv
namespace Gv
variable [Glob] [Laid]
def pipeRead (p:PipeS) (most:Int):PipeS × List UInt8 × Int :=
 if pipeCheck p≠0 then (noPipe,[],pipeCheck p) else if most<0∨4000<most then (noPipe,[],3) else
  ({p with b:=p.b.drop (min most p.b.length).toNat},p.b.take (min most p.b.length).toNat,0)
theorem read_ca:callable Tryz.prog 259=true:=by kernel_rfl
def read_S:Spec:=fun args K=>∃ p n,args=[pipeV p,.int .i64 n]∧K (.tup [pipeV (pipeRead p n).1,.sl byteV (pipeRead p n).2.1,.int .i64 (pipeRead p n).2.2])
noncomputable def read_lib:List (Nat × Spec):=[(196,check_S),(126,cloneB_S),(296,concatB_S)]
noncomputable def read_fns:List (Nat × FnI):=[(295,{fn:=Tryz.f295,hooks:=[],draws:=[(5,[0,0,2,6,14,0,32,96,224,480,1022,2047,4095]),(7,[0,0,2,6,14,0,0,96,254,510,1023,2047,4095])]})]
noncomputable def read_prims:List (Nat × PSpec):=[]
theorem read_E:EnvOK ⟨Tryz.prog,tys,read_lib,read_fns,read_prims,[]⟩:=env_ok mixed0 tys0 (.cons check_ca check_ok (.cons cloneB_ca cloneB_ok (.cons concatB_ca concatB_ok .nil))) (.cons (by kernel_rfl) ⟨Tryz.func295,by kernel_rfl,by kernel_rfl⟩ .nil) .nil rfl
theorem read_ok:Pure Tryz.prog 259 read_S:=by
 refine pure_by read_E 6 (fi:={fn:=Tryz.f259,hooks:=[],draws:=[]}) ⟨Tryz.func259,by kernel_rfl,by kernel_rfl⟩ ?_
 rintro _ K ⟨p,n,rfl,hK⟩
 replace hK:∀ r,r=.tup [pipeV (pipeRead p n).1,.sl byteV (pipeRead p n).2.1,.int .i64 (pipeRead p n).2.2]→K r:=fun r h=>h ▸ hK
 refine ⟨p,rfl,?_⟩
 repeat' first|(refine fun (b:Bool) hb=>?_;cases b<;>first|exact absurd hb (by decide)|exact nfl hb|exact nfr hb|skip)|(refine fun (hl:_≤MAXL)=>?_)|refine ⟨(fun _=>rfl),?_⟩|refine ⟨UInt8,byteV,?_⟩|fail
 ·have hc:pipeCheck p=0:=by grind
  have hs:=pipe_small hc
  have hn:0≤n:=by grind
  refine ⟨(min n p.b.length).toNat,by omega,by omega,?_⟩
  refine ⟨_,rfl,by simp;omega,?_⟩
  refine ⟨fun _=>rfl,?_⟩
  refine ⟨(min n p.b.length).toNat,by omega,by omega,?_⟩
  refine ⟨_,rfl,by simp;omega,?_⟩
  refine hK _ ?_
  grind [pipeRead,pipeV]
 all_goals (refine hK _ ?_;grind [pipeRead,noPipe,pipeV])
end Gv
namespace Gv
variable [Glob] [Laid]
theorem inputsX_ca:callable Tryz.prog 195=true:=by kernel_rfl
def inputsX_S:Spec:=fun args K=>∃ (N:List Gp.Node) (i:Nat),args=[.agg [.sl nodeV N],.int .i64 i]∧(i≤N.length∧(allIns N).length≤1000000)∧K (.int .i64 (insB N i:Nat))
noncomputable def inputsX_lib:List (Nat × Spec):=[]
noncomputable def inputsX_fns:List (Nat × FnI):=[]
noncomputable def inputsX_prims:List (Nat × PSpec):=[]
theorem inputsX_E:EnvOK ⟨Tryz.prog,tys,inputsX_lib,inputsX_fns,inputsX_prims,[]⟩:=env_ok mixed0 tys0 .nil .nil .nil rfl
theorem inputsX_ok:Pure Tryz.prog 195 inputsX_S:=by
 refine pure_by inputsX_E 6 (fi:={fn:=Tryz.f195,hooks:=[],draws:=[]}) ⟨Tryz.func195,by kernel_rfl,by kernel_rfl⟩ ?_
 rintro _ K ⟨N,i,rfl,⟨hi,hn⟩,hK⟩
 replace hK:∀ r,r=.int .i64 (insB N i:Nat)→K r:=fun r h=>h ▸ hK
 have hmono:∀ a b,a≤b→insB N a≤insB N b:=fun a b h=>by
  unfold insB
  rw [←List.take_append_drop a (N.take b),List.take_take,Nat.min_eq_left h,allIns_app,List.length_append]
  omega
 have hall:insB N N.length=(allIns N).length:=by unfold insB;rw [List.take_length]
 have hstep:∀ j (h:j<N.length),insB N (j+1)=insB N j+N[j].ins.length:=fun j h=>by
  unfold insB
  rw [List.take_succ_eq_append_getElem h,allIns_app,List.length_append]
  simp [allIns]
 repeat' first|refine ⟨(fun _=>rfl),?_⟩|fail
 refine ⟨i,rfl,hi,?_⟩
 repeat' first|(refine fun (hl:_≤MAXL)=>?_)|fail
 conv=>whnf
 refine loop_live [11,12] (σ:=Nat) (fun j=>[(13,.int .i64 j),(5,.int .i64 (insB N j:Nat))]) (fun _=>[.box [.sl nodeV N]]) (fun j=>j≤i) (fun j=>i-j) 0 ?_
 conv=>whnf
 refine ⟨(by (refine wk_sel [some 0] rfl rfl ?_ ?_<;>(repeat' first|exact True.intro|exact rfl|exact .inl rfl|exact .inr rfl|refine And.intro ?_ ?_|fail))),Nat.zero_le _,fun j hj=>?_⟩
 have htl:(N.take i).length=i:=by rw [List.length_take];omega
 repeat' first|(refine fun (b:Bool) hb=>?_;cases b<;>first|exact absurd hb (by decide)|exact nfl hb|exact nfr hb|skip)|(refine fun (hl:_≤MAXL)=>?_)|refine And.intro (a:=I64 _) ?_ ?_|refine ⟨_,rfl,?_,rfl,?_⟩|fail
 ·have hji:j=i := by
   have h:=of_decide_eq_false (by assumption:decide ((j:Int)<((N.take i).length:Int))=false)
   omega
  subst hji
  conv=>whnf
  skip
  exact hK _ rfl
 ·have h:=of_decide_eq_true (by assumption:decide ((j:Int)<((N.take i).length:Int))=true)
  omega
 all_goals
  have hj2:j<i:=by
   have h:=of_decide_eq_true (by assumption:decide ((j:Int)<((N.take i).length:Int))=true)
   omega
  have hjN:j<N.length:=by omega
  have hge:(N.take i)[j]'(by omega)=N[j]:=List.getElem_take
  have hs:=hstep j hjN
  have hm:=hmono (j+1) N.length (by omega)
  rw [hall] at hm
 ·rw [hge]
  unfold I64;omega
 ·have hM:(N.take i).length≤MAXL:=by assumption
  rw [htl] at hM
  unfold I64;unfold MAXL at hM;omega
 ·refine ⟨j+1,?_,by omega,by omega⟩
  have e:((insB N (j+1):Nat):Int)=(insB N j:Int)+(((N.take i)[j]'(by omega)).ins.length:Int):=by rw [hge,hs];omega
  show Wk _ _ _ ([(13,.int .i64 ((j+1:Nat):Int)),(5,.int .i64 ((insB N (j+1):Nat):Int))]++_) _
  rw [e]
  exact (by (refine wk_sel [some 0] rfl rfl ?_ ?_<;>(repeat' first|exact True.intro|exact rfl|exact .inl rfl|exact .inr rfl|refine And.intro ?_ ?_|fail)))
end Gv
namespace Gv
variable [Glob] [Laid]
theorem part_put (l:List Bs) (n k:Nat):(put (part l n k)).length≤(put l).length:=by
 have h1:=put_take_le l ((k+1)*l.length / n)
 have h2:=congrArg (fun a=>(put a).length) (List.take_append_drop (k*l.length / n) (l.take ((k+1)*l.length / n)))
 simp only [put_append,List.length_append] at h2
 unfold Gp.part
 omega
theorem mul_cast_le {a b c:Nat} (h:a*b≤c):(a:Int)*(b:Int)≤(c:Int):=by
 rw [←Int.natCast_mul]
 omega
theorem div_cast (k m n:Nat):((k:Int)*(m:Int)) / (n:Int)=((k*m / n:Nat):Int):=by
 rw [←Int.natCast_mul,←Int.natCast_ediv]
theorem splitLines_ca:callable Tryz.prog 191=true:=by kernel_rfl
def splitLines_S:Spec:=fun args K=>∃ (l:List Bs) (n:Nat),args=[.sl strV l,.int .i64 n]∧(1≤n∧n≤1000∧(put l).length≤1000000)∧K (.sl blV (splitLines l n))
noncomputable def splitLines_lib:List (Nat × Spec):=[(97,put_S)]
noncomputable def splitLines_fns:List (Nat × FnI):=[]
noncomputable def splitLines_prims:List (Nat × PSpec):=[]
theorem splitLines_E:EnvOK ⟨Tryz.prog,tys,splitLines_lib,splitLines_fns,splitLines_prims,[]⟩:=env_ok mixed0 tys0 (.cons put_ca put_ok .nil) .nil .nil rfl
theorem splitLines_ok:Pure Tryz.prog 191 splitLines_S:=by
 refine pure_by splitLines_E 6 (fi:={fn:=Tryz.f191,hooks:=[],draws:=[(5,[0,0,0,0,8,28,0,124,0,256,0,1024,3840,0,16128,32766,65534,131070,262143,524287])]}) ⟨Tryz.func191,by kernel_rfl,by kernel_rfl⟩ ?_
 rintro _ K ⟨l,n,rfl,⟨hn1,hn2,hz⟩,hK⟩
 conv=>whnf
 have hl1:=put_len (l:=l) (n:=1000000) hz
 refine loop_live [0,1,7] (σ:=Nat) (fun k=>[(5,.own 0),(8,.int .i64 k)]) (fun k=>[.row 1 (((splitLines l n).take k).map blV)]) (fun k=>k≤n) (fun k=>n-k) 0 ?_
 conv=>whnf
 refine ⟨(by (refine wk_sel [none] rfl rfl ?_ ?_<;>(repeat' first|exact True.intro|exact rfl|exact .inl rfl|exact .inr rfl|refine And.intro ?_ ?_|fail))),Nat.zero_le _,fun k hk=>?_⟩
 have hsl:(splitLines l n).length=n:=by simp [splitLines]
 have hml:k*l.length≤1000000000:=Nat.mul_le_mul (show k≤1000 by omega) hl1
 have hml2:(k+1)*l.length≤1001000000:=Nat.mul_le_mul (show k+1≤1001 by omega) hl1
 have hml3:=mul_cast_le hml
 have hml4:((k:Int)+1)*(l.length:Int)≤((1001000000:Nat):Int):=mul_cast_le hml2
 have hml5:0≤(k:Int)*l.length:=Int.mul_nonneg (by omega) (by omega)
 have hml6:0≤((k:Int)+1)*l.length:=Int.mul_nonneg (by omega) (by omega)
 have hbd:=part_bnd l.length n k (by omega)
 have hpp:=part_put l n k
 repeat' first|refine ⟨_,_,_,LeL.refl _,?_⟩|(refine fun (b:Bool) hb=>?_;cases b<;>first|exact absurd hb (by decide)|exact nfl hb|exact nfr hb|skip)|refine ⟨_,⟨rfl,rfl⟩,?_⟩|refine ⟨_,And.intro (a:=I64 _) ?_ ⟨rfl,rfl⟩,?_⟩|refine ⟨_,(fun _=>⟨rfl,rfl⟩),?_⟩|fail
 ·rw [List.take_of_length_le (by grind)]
  exact hK
 ·exact ⟨by omega,by omega⟩
 refine ⟨_,⟨⟨hml5,by omega,by omega⟩,rfl,rfl⟩,?_⟩
 repeat' first|refine ⟨_,⟨rfl,rfl⟩,?_⟩|refine ⟨_,And.intro (a:=I64 _) ?_ ⟨rfl,rfl⟩,?_⟩|refine ⟨_,(fun _=>⟨rfl,rfl⟩),?_⟩|fail
 ·exact ⟨by omega,by omega⟩
 ·exact ⟨by omega,by omega⟩
 refine ⟨_,⟨⟨hml6,by omega,by omega⟩,rfl,rfl⟩,?_⟩
 refine ⟨_,⟨fun _=>rfl,k*l.length / n,(k+1)*l.length / n,div_cast _ _ _,div_cast (k+1) _ _,Nat.le_trans (Nat.le_add_right _ _) hbd.1,?_,rfl,rfl⟩,?_⟩
 ·exact Nat.div_le_of_le_mul (Nat.mul_le_mul_right _ (by grind))
 refine ⟨_,⟨Gp.part l n k,rfl,by omega,rfl,rfl⟩,?_⟩
 refine ⟨_,⟨Bs,blV,[put (Gp.part l n k)],LeL.refl _,rfl,rfl⟩,?_⟩
 skip
 refine ⟨_,_,⟨fun _=>rfl,?_,rfl,rfl⟩,?_⟩
 ·simp only [List.length_map,List.length_take,List.length_cons,List.length_nil,elsOf]
  omega
 repeat' first|exact True.intro|refine And.intro (a:=I64 _) ?_ ?_|refine ⟨_,⟨rfl,rfl⟩,?_⟩|refine And.intro (a:=chkPend _ _ _ _ _ _) ?_ ?_|fail
 ·(first|omega|(unfold I64;omega)|(simp only [List.length_append,List.length_map,List.length_cons,List.length_nil,Nat.mul_one,Int.ofNat_eq_natCast] at *;omega)|(dsimp only at *;omega)|(unfold I64;dsimp only at *;omega)|(unfold I64;grind)|grind)
 ·have hk2:k<n:=by grind
  refine ⟨k+1,?_,by omega,by omega⟩
  refine wk_sel [some 1] rfl rfl ⟨?_,trivial⟩ ?_
  ·rw [List.take_succ_eq_append_getElem (by omega),List.map_append]
   have:(splitLines l n)[k]'(by omega)=put (Gp.part l n k):=by simp [splitLines]
   rw [this]
   exact rfl
  ·(repeat' first|exact True.intro|exact rfl|exact .inl rfl|exact .inr rfl|refine And.intro ?_ ?_|fail)
end Gv
namespace Gv
variable [Glob] [Laid]
def bestI:Option (Nat × Bs)→Int
 | none=>-1
 | some (j,_)=>j
theorem mergeJ_ca:callable Tryz.prog 184=true:=by kernel_rfl
def mergeJ_S:Spec:=fun args K=>∃ p:List (List Bs),args=[.sl lsV p]∧(p.flatten.length≤1000000∧p.length≤1000)∧K (.sl strV (mergeB p))
noncomputable def mergeJ_lib:List (Nat × Spec):=[]
noncomputable def mergeJ_fns:List (Nat × FnI):=[(251,{fn:=Tryz.f251,hooks:=[],draws:=[]})]
noncomputable def mergeJ_prims:List (Nat × PSpec):=[]
theorem mergeJ_E:EnvOK ⟨Tryz.prog,tys,mergeJ_lib,mergeJ_fns,mergeJ_prims,[]⟩:=env_ok mixed0 tys0 .nil (.cons (by kernel_rfl) ⟨Tryz.func251,by kernel_rfl,by kernel_rfl⟩ .nil) .nil rfl
theorem mergeJ_ok:Pure Tryz.prog 184 mergeJ_S:=by
 refine pure_by mergeJ_E 6 (fi:={fn:=Tryz.f184,hooks:=[2],draws:=[(7,[0,1,3,7,15,31,63,127,255,511,127,127,3199,7295,15487,31871,65535,131071,262143]),(12,[0,0,0,0,0,24,56,120,248,504,1020,0,0,6144,14336,30720,2044,131071,262143])]}) ⟨Tryz.func184,by kernel_rfl,by kernel_rfl⟩ ?_
 rintro _ K ⟨p,rfl,⟨hp1,hp2⟩,hK⟩
 replace hK:∀ r,r=.sl strV (mergeB p)→K r:=fun r h=>h ▸ hK
 conv=>whnf
 refine join_live [] (σ:=Unit) (fun _=>[(0,.own 0)]) (fun _=>[.row 1 (p.map lsV)]) (fun _=>True) ?_
 conv=>whnf
 refine ⟨?_,fun _ _=>?_⟩
 ·repeat' first|(refine fun (b:Bool) hb=>?_;cases b<;>first|exact absurd hb (by decide)|exact nfl hb|exact nfr hb|skip)|refine And.intro (a:=_≤140737488355328) ?_ ?_|refine ⟨(fun _=>rfl),?_⟩|fail
  ·show (0+(p.map lsV).length)*24≤140737488355328
   rw [List.length_map]
   omega
  ·exact ⟨(),(by (refine wk_auto ?_;refine Sel4.mk rfl rfl ?_ ?_<;>(repeat' first|exact True.intro|exact rfl|exact .inl rfl|exact .inr rfl|refine And.intro ?_ ?_|fail))),trivial⟩
  ·have h:true=true→p=[]:=by assumption
   rw [h rfl]
   exact ⟨(),(by (refine wk_auto ?_;refine Sel4.mk rfl rfl ?_ ?_<;>(repeat' first|exact True.intro|exact rfl|exact .inl rfl|exact .inr rfl|refine And.intro ?_ ?_|fail))),trivial⟩
 skip
 conv=>whnf
 refine loop_live [0] (σ:=List (List Bs) × List Bs) (fun s=>[(3,.own 1)]) (fun s=>[.row 1 (s.1.map lsV),.row 1 (s.2.map strV)]) (fun s=>s.2++mergeB s.1=mergeB p∧s.1.length=p.length∧s.2.length+s.1.flatten.length=p.flatten.length) (fun s=>s.1.flatten.length) (p,[]) ?_
 conv=>whnf
 refine ⟨(by (refine wk_auto ?_;refine Sel4.mk rfl rfl ?_ ?_<;>(repeat' first|exact True.intro|exact rfl|exact .inl rfl|exact .inr rfl|refine And.intro ?_ ?_|fail))),⟨rfl,rfl,by simp⟩,fun s hs=>?_⟩
 obtain ⟨q,out⟩:=s
 obtain ⟨h1,h2,h3⟩:=hs
 dsimp only at h1 h2 h3
 repeat' first|(refine fun (hl:_≤MAXL)=>?_)|fail
 conv=>whnf
 refine loop_live [0,3,9,10] (σ:=Nat) (fun i=>[(11,.int .i64 i),(4,.int .i64 (bestI (best q i)))]) (fun s=>[.row 1 (q.map lsV),.row 1 (out.map strV)]) (fun i=>i≤q.length) (fun i=>q.length-i) 0 ?_
 conv=>whnf
 refine ⟨(by (refine wk_auto ?_;refine Sel4.mk rfl rfl ?_ ?_<;>(repeat' first|exact True.intro|exact rfl|exact .inl rfl|exact .inr rfl|refine And.intro ?_ ?_|fail))),Nat.zero_le _,fun i hi=>?_⟩
 repeat' first|refine ⟨_,_,_,LeL.refl _,?_⟩|(refine fun (b:Bool) hb=>?_;cases b<;>first|exact absurd hb (by decide)|exact nfl hb|exact nfr hb|skip)|refine ⟨_,⟨rfl,rfl⟩,?_⟩|refine ⟨rfl,?_⟩|fail
 ·
  have hge:¬ (i:Int)<((q.map lsV).length:Int):=of_decide_eq_false (by assumption)
  rw [List.length_map] at hge
  have ei:i=q.length:=by omega
  have hb:¬ bestI (best q i)<0:=of_decide_eq_false (by assumption)
  obtain ⟨j,s,hbt⟩:∃ j s,best q i=some (j,s):=by
   cases hq:best q i with
   | none=>rw [hq] at hb;exact absurd (show (-1:Int)<0 by decide) hb
   | some x=>exact ⟨x.1,x.2,rfl⟩
  have hbt2:best q q.length=some (j,s):=by rw [←ei];exact hbt
  obtain ⟨hji,⟨r,hjr⟩,-⟩:=best_some hbt2
  have hqj:q[j]=s::r:=by rw [List.getD_eq_getElem?_getD,List.getElem?_eq_getElem hji] at hjr;exact hjr
  have hgj:(q.map lsV)[j]?=some (lsV q[j]):=by rw [List.getElem?_map,List.getElem?_eq_getElem hji];rfl
  have hpj:0<q[j].length:=by rw [hqj];exact Nat.succ_pos _
  have hj0:∀ h:0<q[j].length,q[j][0]=s:=fun h=>by simp [hqj]
  have hms:=mergeB_step hbt2
  have hfl:=(flat_part hjr).length_eq
  rw [List.length_cons] at hfl
  conv=>whnf
  refine ⟨_,⟨rfl,j,by rw [hbt];rfl,by simpa using hji,⟨rfl,rfl⟩⟩,?_⟩
  repeat' first|exact True.intro|refine And.intro (a:=chkPast _ _ _ _ _ _ _ _) ?_ ?_|fail
  conv=>whnf
  refine ⟨_,⟨_,hgj,⟨rfl,rfl⟩⟩,?_⟩
  repeat' first|exact True.intro|refine ⟨_,⟨rfl,rfl⟩,?_⟩|refine And.intro (a:=chkPast _ _ _ _ _ _ _ _) ?_ ?_|refine ⟨_,⟨_,rfl,?_,rfl,rfl,rfl⟩,?_⟩|fail
  ·exact hpj
  refine ⟨_,⟨Bs,strV,[q[j][0]],LeL.refl _,rfl,rfl⟩,?_⟩
  refine ⟨_,_,⟨fun _=>rfl,?_,rfl,rfl⟩,?_⟩
  ·show ((out.map strV).length+([q[j][0]].map strV).length)*16≤140737488355328
   rw [List.length_map,List.length_map,List.length_singleton]
   omega
  repeat' first|exact True.intro|refine ⟨_,⟨rfl,rfl⟩,?_⟩|refine And.intro (a:=chkPend _ _ _ _ _ _) ?_ ?_|fail
  conv=>whnf
  refine ⟨_,⟨rfl,j,by rw [hbt];rfl,by simpa using hji,⟨rfl,rfl⟩⟩,?_⟩
  repeat' first|refine And.intro (a:=chkPast _ _ _ _ _ _ _ _) ?_ ?_|fail
  ·conv=>whnf
   exact ⟨⟨rfl,j,by rw [hbt];rfl,by simpa using hji,⟨rfl,rfl⟩⟩,trivial⟩
  conv=>whnf
  refine ⟨_,⟨_,hgj,⟨rfl,rfl⟩⟩,?_⟩
  repeat' first|refine And.intro (a:=chkPast _ _ _ _ _ _ _ _) ?_ ?_|fail
  ·conv=>whnf
   exact ⟨⟨_,hgj,⟨rfl,rfl⟩⟩,trivial⟩
  refine ⟨_,⟨fun _=>rfl,1,rfl,hpj,rfl,rfl⟩,?_⟩
  repeat' first|refine ⟨_,⟨rfl,rfl⟩,?_⟩|fail
  conv=>whnf
  refine ⟨_,⟨rfl,j,by rw [hbt];rfl,by simpa using hji,⟨rfl,rfl⟩⟩,?_⟩
  repeat' first|exact True.intro|refine And.intro (a:=chkPast _ _ _ _ _ _ _ _) ?_ ?_|fail
  conv=>whnf
  refine ⟨_,_,⟨by simpa using hji,rfl,rfl⟩,?_⟩
  repeat' first|exact True.intro|refine And.intro (a:=chkPend _ _ _ _ _ _) ?_ ?_|fail
  refine ⟨(q.set j ((q.getD j []).drop 1),out++[s]),?_,⟨?_,?_,?_⟩,?_⟩
  rotate_left
  ·show (out++[s])++mergeB _=_
   rw [←h1,hms,List.append_assoc]
   rfl
  ·show (q.set j _).length=_
   rw [List.length_set,h2]
  ·show (out++[s]).length+(q.set j _).flatten.length=_
   rw [List.length_append,List.length_singleton]
   omega
  ·show (q.set j _).flatten.length<q.flatten.length
   omega
  refine wk_sel [some 0,some 2] rfl rfl ⟨?_,?_,trivial⟩ ?_
  ·show Row.row 1 _=Row.row 1 _
   rw [hjr,hqj,List.map_set]
   rfl
  ·show Row.row 1 _=Row.row 1 _
   rw [hj0 hpj,List.map_append]
  ·(repeat' first|exact True.intro|exact rfl|exact .inl rfl|exact .inr rfl|refine And.intro ?_ ?_|fail)
 ·
  have hge:¬ (i:Int)<((q.map lsV).length:Int):=of_decide_eq_false (by assumption)
  rw [List.length_map] at hge
  have ei:i=q.length:=by omega
  have hb:decide (bestI (best q i)<0)=true:=by assumption
  have hn:best q q.length=none:=by
   rw [ei] at hb
   cases hq:best q q.length with
   | none=>rfl
   | some x =>
    obtain ⟨j,s⟩:=x
    rw [hq] at hb
    have:=of_decide_eq_true hb
    have this:(j:Int)<0:=this
    omega
  rw [mergeB_none hn,List.append_nil] at h1
  conv=>whnf
  exact hK _ (by rw [h1])
 have hlt:i<q.length:=by
  have h:=of_decide_eq_true (by assumption:decide ((i:Int)<((q.map lsV).length:Int))=true)
  rw [List.length_map] at h
  omega
 have hg:(q.map lsV)[i]?=some (lsV q[i]):=by rw [List.getElem?_map,List.getElem?_eq_getElem hlt];rfl
 refine ⟨i,rfl,by simpa using hlt,?_⟩
 conv=>whnf
 refine ⟨_,hg,?_⟩
 have hgd:q.getD i []=q[i]:=by rw [List.getD_eq_getElem?_getD,List.getElem?_eq_getElem hlt];rfl
 have hstep:best q (i+1)=bestStep (best q i) i q[i]:=by rw [best,hgd]
 repeat' first|(refine fun (b:Bool) hb=>?_;cases b<;>first|exact absurd hb (by decide)|exact nfl hb|exact nfr hb|skip)|refine And.intro (a:=I64 _) ?_ ?_|refine ⟨_,⟨rfl,rfl⟩,?_⟩|refine ⟨_,(fun _=>⟨rfl,rfl⟩),?_⟩|refine ⟨_,⟨_,rfl,?_,rfl,rfl,rfl⟩,?_⟩|fail
 ·unfold I64;omega
 ·have h:¬ (0:Int)<(q[i].length:Int):=of_decide_eq_false (by assumption)
  have h0:q[i]=[]:=List.length_eq_zero_iff.1 (by omega)
  refine ⟨i+1,?_,hlt,by show q.length-(i+1)<q.length-i;omega⟩
  have e:best q (i+1)=best q i:=by rw [hstep,h0];rfl
  rw [e]
  exact (by (refine wk_auto ?_;refine Sel4.mk rfl rfl ?_ ?_<;>(repeat' first|exact True.intro|exact rfl|exact .inl rfl|exact .inr rfl|refine And.intro ?_ ?_|fail)))
 ·have h:(0:Int)<(q[i].length:Int):=of_decide_eq_true (by assumption)
  have h0:0<q[i].length:=by omega
  exact h0
 ·have hb:¬ bestI (best q i)<0:=of_decide_eq_false (by assumption)
  obtain ⟨j,t,hbt⟩:∃ j t,best q i=some (j,t):=by
   cases hq:best q i with
   | none=>rw [hq] at hb;exact absurd (show (-1:Int)<0 by decide) hb
   | some x=>exact ⟨x.1,x.2,rfl⟩
  obtain ⟨hji,⟨r,hjr⟩,-⟩:=best_some hbt
  have hjl:j<q.length:=by omega
  have hqj:q[j]=t::r:=by rw [List.getD_eq_getElem?_getD,List.getElem?_eq_getElem hjl] at hjr;exact hjr
  have hgj:(q.map lsV)[j]?=some (lsV q[j]):=by rw [List.getElem?_map,List.getElem?_eq_getElem hjl];rfl
  obtain ⟨s,r',hsr⟩:∃ s r',q[i]=s::r':=by
   have h:(0:Int)<(q[i].length:Int):=of_decide_eq_true (by assumption)
   cases hq:q[i] with
   | nil=>rw [hq] at h;simp at h
   | cons s r=>exact ⟨s,r,rfl⟩
  have hpi:0<q[i].length:=by rw [hsr];exact Nat.succ_pos _
  have hpj:0<q[j].length:=by rw [hqj];exact Nat.succ_pos _
  have hi0:∀ h:0<q[i].length,q[i][0]=s:=fun h=>by simp [hsr]
  have hj0:∀ h:0<q[j].length,q[j][0]=t:=fun h=>by simp [hqj]
  have hstep2:best q (i+1)=if Op.bytesLess s t=true then some (i,s) else some (j,t):=by rw [hstep,hsr,hbt];rfl
  conv=>whnf
  refine ⟨_,⟨rfl,j,by rw [hbt];rfl,by simpa using hjl,⟨rfl,rfl⟩⟩,?_⟩
  repeat' first|exact True.intro|refine And.intro (a:=chkPast _ _ _ _ _ _ _ _) ?_ ?_|fail
  conv=>whnf
  refine ⟨_,⟨_,hgj,⟨rfl,rfl⟩⟩,?_⟩
  repeat' first|exact True.intro|(refine fun (b:Bool) hb=>?_;cases b<;>first|exact absurd hb (by decide)|exact nfl hb|exact nfr hb|skip)|refine And.intro (a:=I64 _) ?_ ?_|refine ⟨_,⟨rfl,rfl⟩,?_⟩|refine And.intro (a:=chkPast _ _ _ _ _ _ _ _) ?_ ?_|refine ⟨_,⟨_,rfl,?_,rfl,rfl,rfl⟩,?_⟩|fail
  all_goals first|exact hpj|(unfold I64;omega)|skip
  ·have hb2:Op.bytesLess q[i][0] q[j][0]=false:=by assumption
   rw [hi0,hj0] at hb2
   rw [hb2] at hstep2
   refine ⟨i+1,?_,hlt,by show q.length-(i+1)<q.length-i;omega⟩
   rw [hstep2,hbt]
   exact (by (refine wk_auto ?_;refine Sel4.mk rfl rfl ?_ ?_<;>(repeat' first|exact True.intro|exact rfl|exact .inl rfl|exact .inr rfl|refine And.intro ?_ ?_|fail)))
  ·have hb2:Op.bytesLess q[i][0] q[j][0]=true:=by assumption
   rw [hi0,hj0] at hb2
   rw [hb2] at hstep2
   refine ⟨i+1,?_,hlt,by show q.length-(i+1)<q.length-i;omega⟩
   rw [hstep2]
   exact (by (refine wk_auto ?_;refine Sel4.mk rfl rfl ?_ ?_<;>(repeat' first|exact True.intro|exact rfl|exact .inl rfl|exact .inr rfl|refine And.intro ?_ ?_|fail)))
 ·unfold I64;omega
 ·have h:(0:Int)<(q[i].length:Int):=of_decide_eq_true (by assumption)
  have hb:bestI (best q i)<0:=of_decide_eq_true (by assumption)
  have hn:best q i=none:=by
   cases hq:best q i with
   | none=>rfl
   | some x =>
    obtain ⟨j,s⟩:=x
    rw [hq] at hb
    have hb:(j:Int)<0:=hb
    omega
  obtain ⟨s,r,hsr⟩:∃ s r,q[i]=s::r:=by
   cases hq:q[i] with
   | nil=>rw [hq] at h;simp at h
   | cons s r=>exact ⟨s,r,rfl⟩
  refine ⟨i+1,?_,hlt,by show q.length-(i+1)<q.length-i;omega⟩
  have e:best q (i+1)=some (i,s):=by rw [hstep,hsr,hn];rfl
  rw [e]
  exact (by (refine wk_auto ?_;refine Sel4.mk rfl rfl ?_ ?_<;>(repeat' first|exact True.intro|exact rfl|exact .inl rfl|exact .inr rfl|refine And.intro ?_ ?_|fail)))
end Gv
namespace Gv
variable [Glob] [Laid] [Errs]
theorem atoiS_ca:callable Tryz.prog 66=true:=by kernel_rfl
def atoiS_S:Spec:=fun args K=>∃ (s:Bs),args=[.str s]∧s.length≤140737488355328∧(∀ k,Lib.atoiAll s=.ok k→K (.tup [.int .i64 k,.raw .nilIface]))∧∀ n T b,(∀ k,Lib.atoiAll s≠.ok k)→K (.tup [.int .i64 n,.raw (.iface T (.pointer (some ⟨b,0,none⟩)))])
theorem atoiS_ok:Pure Tryz.prog 66 atoiS_S:=by
 intro w m args us K hm hg hv hT
 obtain ⟨s,rfl,h1,hok,herr⟩:=hT
 obtain ⟨a,rfl,ha⟩:=args1 hv.1 hv.2
 obtain ⟨rfl,-⟩:=vr_str ha
 have hgw:Sub Glob.mem w:=fun b o e=>hm b o (hg b o e)
 have two:∀ {m:Mem} {n:Int} {u:Value},VR m noLoc (.tup [.int .i64 n,.raw u]) (.tuple #[.int .i64 n,u]):=fun {m n u}=>by
  have h:VRL m noLoc [.int .i64 n,.raw u] [.int .i64 n,u]:=VRL.cons .int (VRL.cons .raw VRL.nil)
  exact .tup h.len h.el
 cases h:Lib.atoiAll s with
 | ok v =>
  refine (Tryz.strconv_Atoi_ok (ba s) (by rw [ba_size];omega) v h w).mono fun e w' ⟨he,hw⟩=>?_
  refine ⟨_,_,he,Bel.of_below ?_,hok v h,two⟩
  rcases hw with rfl|⟨t,rfl⟩
  ·exact RowKit.Below.refl _ _
  ·exact Lib.bytesWorld_below _ _ _
 | range =>
  obtain ⟨tp,pv,e1⟩:=Errs.rng w hgw
  refine (Tryz.strconv_Atoi_range_var (ba s) (by rw [ba_size];omega) h tp pv w e1).mono fun e w' ⟨N,he,_,_,hw⟩=>?_
  exact ⟨_,_,he,Bel.of_below hw,herr _ _ _ (fun k=>by rw [h];intro x;cases x),two⟩
 | _ =>
  obtain ⟨tp,pv,e1⟩:=Errs.syn w hgw
  refine (Tryz.strconv_Atoi_syntax_var (ba s) (by rw [ba_size];omega) h tp pv w e1).mono fun e w' ⟨N,he,_,_,hw⟩=>?_
  exact ⟨_,_,he,Bel.of_below hw,herr _ _ _ (fun k=>by rw [h];intro x;cases x),two⟩
end Gv
namespace Gv
variable [Glob] [Laid] [Errs] [Nums]
theorem sumJ_ca:callable Tryz.prog 185=true:=by kernel_rfl
def sumJ_S:Spec:=fun args K=>∃ p:List (List Bs),args=[.sl lsV p]∧(p.length≤1000∧∀ l∈p,∀ s∈l,s.length≤1000000)∧K (.int .i64 (sumN p p.length))
noncomputable def sumJ_lib:List (Nat × Spec):=[(66,atoiS_S),(107,itoa_S)]
noncomputable def sumJ_fns:List (Nat × FnI):=[]
noncomputable def sumJ_prims:List (Nat × PSpec):=[]
theorem sumJ_E:EnvOK ⟨Tryz.prog,tys,sumJ_lib,sumJ_fns,sumJ_prims,[]⟩:=env_ok mixed0 tys0 (.cons atoiS_ca atoiS_ok (.cons itoa_ca itoa_ok .nil)) .nil .nil rfl
theorem sumJ_ok:Pure Tryz.prog 185 sumJ_S:=by
 refine pure_by sumJ_E 6 (fi:={fn:=Tryz.f185,hooks:=[],draws:=[(7,[0,1,3,7,15,31,63,127,255,511,1023,2047,4095,2047,10239,26623,65535,131071])]}) ⟨Tryz.func185,by kernel_rfl,by kernel_rfl⟩ ?_
 rintro _ K ⟨p,rfl,⟨hp1,hp2⟩,hK⟩
 replace hK:∀ r,r=.int .i64 (sumN p p.length)→K r:=fun r h=>h ▸ hK
 repeat' first|(refine fun (hl:_≤MAXL)=>?_)|fail
 conv=>whnf
 refine loop_live [8,9] (σ:=Nat × Int) (fun s=>[(10,.int .i64 s.1),(3,.int .i64 s.2)]) (fun s=>[]) (fun s=>s.1≤p.length∧s.2=sumN p s.1) (fun s=>p.length-s.1) (0,0) ?_
 conv=>whnf
 refine ⟨(by (refine wk_auto ?_;refine Sel4.mk rfl rfl ?_ ?_<;>(repeat' first|exact True.intro|exact rfl|exact .inl rfl|exact .inr rfl|refine And.intro ?_ ?_|fail))),⟨Nat.zero_le _,rfl⟩,fun s hs=>?_⟩
 obtain ⟨i,acc⟩:=s
 obtain ⟨hi,hacc⟩:=hs
 dsimp only at hi hacc
 have hbd:=sumN_bnd p i
 rw [←hacc] at hbd
 repeat' first|(refine fun (b:Bool) hb=>?_;cases b<;>first|exact absurd hb (by decide)|exact nfl hb|exact nfr hb|skip)|(refine fun (hl:_≤MAXL)=>?_)|refine And.intro (a:=I64 _) ?_ ?_|refine ⟨_,rfl,?_,rfl,?_⟩|fail
 ·have hge:¬ (i:Int)<(p.length:Int):=of_decide_eq_false (by assumption)
  have ei:i=p.length:=by omega
  conv=>whnf
  exact hK _ (by rw [hacc,ei])
 ·have h:=of_decide_eq_true (by assumption:decide ((i:Int)<(p.length:Int))=true)
  show i<p.length
  omega
 all_goals have hlt:i<p.length:=by (have h:=of_decide_eq_true (by assumption:decide ((i:Int)<(p.length:Int))=true);omega)
 all_goals have hgd:p.getD i []=p[i]:=by (rw [List.getD_eq_getElem?_getD,List.getElem?_eq_getElem hlt];rfl)
 all_goals have hnx:sumN p (i+1)=sumN p i+numH p[i]:=by rw [sumN,hgd]
 ·have h:¬ (p[i].length:Int)=0:=of_decide_eq_false (by assumption)
  have h0:0<p[i].length:=by omega
  exact h0
 ·have h:¬ (p[i].length:Int)=0:=of_decide_eq_false (by assumption)
  obtain ⟨s,r,hsr⟩:∃ s r,p[i]=s::r:=by
   cases hq:p[i] with
   | nil=>rw [hq] at h;simp at h
   | cons s r=>exact ⟨s,r,rfl⟩
  have hs0:∀ h:0<p[i].length,p[i][0]=s:=fun h=>by simp [hsr]
  have hp0:0<p[i].length:=by rw [hsr];exact Nat.succ_pos _
  have hsl:s.length≤1000000:=hp2 _ (List.getElem_mem hlt) s (by rw [hsr];simp)
  have hnh:numH p[i]=numOf s:=by rw [hsr];rfl
  conv=>whnf
  refine ⟨p[i][0],rfl,by rw [hs0 hp0];omega,fun k hk=>?_,fun n T b hn=>?_⟩
  ·rw [hs0 hp0] at hk
   have hkb:=Lib.atoiAll_bounds hk
   have hno:numOf s=if 0≤k∧k≤4000∧Lib.itoa k=s then k else 0:=by unfold numOf;rw [hk]
   have hz:∀ h:¬ (0≤k∧k≤4000∧Lib.itoa k=s),sumN p (i+1)=sumN p i:=fun h=>by rw [hnx,hnh,hno,if_neg h];omega
   repeat' first|(refine fun (b:Bool) hb=>?_;cases b<;>first|exact absurd hb (by decide)|exact nfl hb|exact nfr hb|skip)|refine And.intro (a:=I64 _) ?_ ?_|refine ⟨_,⟨rfl,rfl⟩,?_⟩|fail
   ·unfold I64;omega
   ·have h:¬ (0:Int)≤k:=of_decide_eq_false (by assumption)
    exact ⟨(i+1,acc),(by (refine wk_auto ?_;refine Sel4.mk rfl rfl ?_ ?_<;>(repeat' first|exact True.intro|exact rfl|exact .inl rfl|exact .inr rfl|refine And.intro ?_ ?_|fail))),⟨hlt,by show acc=_;rw [hz (fun e=>h e.1),hacc]⟩,by show p.length-(i+1)<p.length-i;omega⟩
   ·unfold I64;omega
   ·have h:¬ k≤4000:=of_decide_eq_false (by assumption)
    exact ⟨(i+1,acc),(by (refine wk_auto ?_;refine Sel4.mk rfl rfl ?_ ?_<;>(repeat' first|exact True.intro|exact rfl|exact .inl rfl|exact .inr rfl|refine And.intro ?_ ?_|fail))),⟨hlt,by show acc=_;rw [hz (fun e=>h e.2.1),hacc]⟩,by show p.length-(i+1)<p.length-i;omega⟩
   apply Exists.intro
   apply And.intro
   ·refine ⟨k,rfl,hkb,?_⟩
    exact ⟨rfl,rfl⟩
   repeat' first|(refine fun (b:Bool) hb=>?_;cases b<;>first|exact absurd hb (by decide)|exact nfl hb|exact nfr hb|skip)|refine And.intro (a:=I64 _) ?_ ?_|refine ⟨_,⟨rfl,rfl⟩,?_⟩|refine ⟨_,⟨_,rfl,?_,rfl,rfl,rfl⟩,?_⟩|fail
   ·exact hp0
   ·unfold I64;omega
   ·have h:¬ Lib.itoa k=p[i][0]:=of_decide_eq_false (by assumption)
    rw [hs0 hp0] at h
    exact ⟨(i+1,acc),(by (refine wk_auto ?_;refine Sel4.mk rfl rfl ?_ ?_<;>(repeat' first|exact True.intro|exact rfl|exact .inl rfl|exact .inr rfl|refine And.intro ?_ ?_|fail))),⟨hlt,by show acc=_;rw [hz (fun e=>h e.2.2),hacc]⟩,by show p.length-(i+1)<p.length-i;omega⟩
   ·have h2:k≤4000:=of_decide_eq_true (by assumption)
    unfold I64;omega
   ·unfold I64;omega
   ·have h:Lib.itoa k=p[i][0]:=of_decide_eq_true (by assumption)
    rw [hs0 hp0] at h
    have h1:(0:Int)≤k:=of_decide_eq_true (by assumption)
    have h2:k≤4000:=of_decide_eq_true (by assumption)
    exact ⟨(i+1,acc+k),(by (refine wk_auto ?_;refine Sel4.mk rfl rfl ?_ ?_<;>(repeat' first|exact True.intro|exact rfl|exact .inl rfl|exact .inr rfl|refine And.intro ?_ ?_|fail))),⟨hlt,by show acc+k=_;rw [hnx,hnh,hno,if_pos ⟨h1,h2,h⟩,hacc]⟩,by show p.length-(i+1)<p.length-i;omega⟩
  ·rw [hs0 hp0] at hn
   have hno:numOf s=0:=by
    unfold numOf
    cases h:Lib.atoiAll s with
    | ok k=>exact absurd h (hn k)
    | _=>rfl
   repeat' first|refine And.intro (a:=I64 _) ?_ ?_|refine ⟨_,⟨rfl,rfl⟩,?_⟩|fail
   ·unfold I64;omega
   ·have e:sumN p (i+1)=sumN p i:=by rw [hnx,hnh,hno];omega
    exact ⟨(i+1,acc),(by (refine wk_auto ?_;refine Sel4.mk rfl rfl ?_ ?_<;>(repeat' first|exact True.intro|exact rfl|exact .inl rfl|exact .inr rfl|refine And.intro ?_ ?_|fail))),⟨hlt,by show acc=_;rw [e,hacc]⟩,by show p.length-(i+1)<p.length-i;omega⟩
 ·unfold I64;omega
 ·have h:(p[i].length:Int)=0:=of_decide_eq_true (by assumption)
  have h0:p[i]=[]:=List.length_eq_zero_iff.1 (by omega)
  have e:sumN p (i+1)=sumN p i:=by rw [hnx,h0];show _+0=_;omega
  exact ⟨(i+1,acc),(by (refine wk_auto ?_;refine Sel4.mk rfl rfl ?_ ?_<;>(repeat' first|exact True.intro|exact rfl|exact .inl rfl|exact .inr rfl|refine And.intro ?_ ?_|fail))),⟨hlt,by show acc=_;rw [e,hacc]⟩,by show p.length-(i+1)<p.length-i;omega⟩
end Gv
namespace Gv
variable [Glob] [Laid]
theorem concatSL_ca:callable Tryz.prog 186=true:=by kernel_rfl
def concatSL_S:Spec:=fun args K=>∃ a:List (List Bs),args=[.sl lsV a]∧a.flatten.length≤1000000∧K (.sl strV a.flatten)
noncomputable def concatSL_lib:List (Nat × Spec):=[]
noncomputable def concatSL_fns:List (Nat × FnI):=[(252,{fn:=Tryz.f252,hooks:=[],draws:=[]})]
noncomputable def concatSL_prims:List (Nat × PSpec):=[]
theorem concatSL_E:EnvOK ⟨Tryz.prog,tys,concatSL_lib,concatSL_fns,concatSL_prims,[]⟩:=env_ok mixed0 tys0 .nil (.cons (by kernel_rfl) ⟨Tryz.func252,by kernel_rfl,by kernel_rfl⟩ .nil) .nil rfl
theorem concatSL_ok:Pure Tryz.prog 186 concatSL_S:=by
 refine pure_by concatSL_E 6 (fi:={fn:=Tryz.f186,hooks:=[10],draws:=[]}) ⟨Tryz.func186,by kernel_rfl,by kernel_rfl⟩ ?_
 rintro _ K ⟨x,rfl,hx,hK⟩
 replace hK:∀ p,p=.sl strV x.flatten→K p:=fun r h=>h ▸ hK
 obtain ⟨f,hf⟩:∃ f:Nat→List Bs,∀ i,f i=(x.take i).flatten:=⟨_,fun _=>rfl⟩
 have f0:f 0=[]:=by simp [hf]
 have fS:∀ i (h:i<x.length),f (i+1)=f i++x[i]:=fun i h=>by
  rw [hf,hf,List.take_succ_eq_append_getElem h]
  simp only [List.flatten_append,List.flatten_cons,List.flatten_nil,List.append_nil]
 have fN:∀ i,x.length≤i→f i=x.flatten:=fun i h=>by simp [hf,List.take_of_length_le h]
 have fl:∀ i,(f i).length≤1000000:=fun i=>by
  rw [←List.take_append_drop i x] at hx
  simp only [List.flatten_append,List.length_append] at hx
  rw [hf];omega
 clear hf
 refine fun (hl:_≤MAXL)=>?_
 conv=>whnf
 refine loop_intro (σ:=Nat) (fun i=>[(0,.sl lsV x),(2,.nil),(9,.sl lsV x),(10,.int .i64 x.length),(11,.int .i64 i),(3,.int .i64 ((f i).length:Nat))]) (fun _=>[]) (fun i=>i≤x.length) (fun i=>x.length-i) 0 (wk_sel [] rfl rfl trivial ?_) (Nat.zero_le _) ?_
 ·simp only [f0]
  (repeat' first|exact True.intro|exact rfl|exact .inl rfl|exact .inr rfl|refine And.intro ?_ ?_|fail)
 intro i hi
 have hs:=fl i
 repeat' first|(refine fun (b:Bool) hb=>?_;cases b<;>first|exact absurd hb (by decide)|exact nfl hb|exact nfr hb|skip)|(refine fun (hl:_≤MAXL)=>?_)|refine And.intro (a:=I64 _) ?_ ?_|refine ⟨_,rfl,?_,rfl,?_⟩|fail
 ·conv=>whnf
  refine join_intro (σ:=Unit) (fun _=>[(0,.sl lsV x),(2,.nil),(6,.own 0)]) (fun _=>[.row 1 []]) (fun _=>True) ?_ ?_
  ·repeat' first|(refine fun (b:Bool) hb=>?_;cases b<;>first|exact absurd hb (by decide)|exact nfl hb|exact nfr hb|skip)|(refine fun (hl:_≤MAXL)=>?_)|refine And.intro (a:=I64 _) ?_ ?_|refine ⟨rfl,?_⟩|fail
   ·unfold I64;omega
   ·unfold I64;omega
   ·refine ⟨(),wk_sel [none] rfl rfl trivial ?_,trivial⟩
    (repeat' first|exact True.intro|exact rfl|exact .inl rfl|exact .inr rfl|refine And.intro ?_ ?_|fail)
   ·refine ⟨(f i).length,by simp,by grind,by simp only [Nat.mul_one];omega,?_⟩
    refine fun _=>?_
    refine ⟨0,rfl,Nat.zero_le _,?_⟩
    refine ⟨(),wk_sel [some 1] rfl rfl ⟨rfl,trivial⟩ ?_,trivial⟩
    (repeat' first|exact True.intro|exact rfl|exact .inl rfl|exact .inr rfl|refine And.intro ?_ ?_|fail)
  intro _ _
  refine fun (hl:_≤MAXL)=>?_
  conv=>whnf
  refine loop_intro (σ:=Nat) (fun i=>[(0,.sl lsV x),(2,.nil),(6,.own 0),(25,.sl lsV x),(26,.int .i64 x.length),(27,.int .i64 i)]) (fun i=>[.row 1 ((f i).map strV)]) (fun i=>i≤x.length) (fun i=>x.length-i) 0 (wk_sel [some 0] rfl rfl ⟨?_,trivial⟩ ?_) (Nat.zero_le _) ?_
  ·rw [f0];exact rfl
  ·(repeat' first|exact True.intro|exact rfl|exact .inl rfl|exact .inr rfl|refine And.intro ?_ ?_|fail)
  intro i hi
  have hs:=fl i
  repeat' first|refine ⟨_,_,_,LeL.refl _,?_⟩|(refine fun (b:Bool) hb=>?_;cases b<;>first|exact absurd hb (by decide)|exact nfl hb|exact nfr hb|skip)|refine And.intro (a:=I64 _) ?_ ?_|refine And.intro (a:=_≤140737488355328) ?_ ?_|refine ⟨_,rfl,?_,rfl,?_⟩|refine ⟨(fun _=>rfl),?_⟩|fail
  ·refine hK _ ?_
   rw [fN i (by grind)]
  ·grind
  ·have:=fl (i+1)
   rw [fS i (by grind)] at this
   simp only [List.length_append,List.length_map,lsV,elsOf] at this ⊢
   omega
  ·unfold I64;grind
  ·refine ⟨i+1,?_,?_,?_⟩
   ·refine wk_sel [some 1] rfl rfl ⟨?_,trivial⟩ ?_
    ·rw [fS i (by grind),List.map_append]
     exact rfl
    ·(repeat' first|exact True.intro|exact rfl|exact .inl rfl|exact .inr rfl|refine And.intro ?_ ?_|fail)
   ·grind
   ·grind
 ·grind
 ·unfold I64;grind
 ·unfold I64;grind
 ·refine ⟨i+1,?_,?_,?_⟩
  ·refine wk_sel [] rfl rfl trivial ?_
   rw [fS i (by grind)]
   simp only [List.length_append]
   (repeat' first|exact True.intro|exact rfl|exact .inl rfl|exact .inr rfl|refine And.intro ?_ ?_|fail)
  ·grind
  ·grind
end Gv
namespace Gv
variable [Glob] [Laid] [Errs] [Nums]
theorem joinL_ca:callable Tryz.prog 133=true:=by kernel_rfl
def joinL_S:Spec:=fun args K=>∃ (h:Int) (c:Cmd) (p:List (List Bs)),args=[.int .i64 h,cmdV c,.sl lsV p]∧((h=4→checkCmd c=0)∧p.length≤1000∧p.flatten.length≤900000∧∀ l∈p,∀ s∈l,s.length≤900000)∧K (.sl strV (joinB h c p))
noncomputable def joinL_lib:List (Nat × Spec):=[(184,mergeJ_S),(185,sumJ_S),(107,itoa_S),(98,linesC_S),(186,concatSL_S)]
noncomputable def joinL_fns:List (Nat × FnI):=[]
noncomputable def joinL_prims:List (Nat × PSpec):=[]
theorem joinL_E:EnvOK ⟨Tryz.prog,tys,joinL_lib,joinL_fns,joinL_prims,[]⟩:=env_ok mixed0 tys0 (.cons mergeJ_ca mergeJ_ok (.cons sumJ_ca sumJ_ok (.cons itoa_ca itoa_ok (.cons linesC_ca linesC_ok (.cons concatSL_ca concatSL_ok .nil))))) .nil .nil rfl
theorem joinL_ok:Pure Tryz.prog 133 joinL_S:=by
 refine pure_by joinL_E 6 (fi:={fn:=Tryz.f133,hooks:=[],draws:=[]}) ⟨Tryz.func133,by kernel_rfl,by kernel_rfl⟩ ?_
 rintro _ K ⟨h,c,p,rfl,⟨hc,hp1,hp2,hp3⟩,hK⟩
 replace hK:∀ r,r=.sl strV (joinB h c p)→K r:=fun r h=>h ▸ hK
 have hb:=sumN_bnd p p.length
 unfold joinB at hK
 repeat' first|(refine fun (b:Bool) hb=>?_;cases b<;>first|exact absurd hb (by decide)|exact nfl hb|exact nfr hb|skip)|fail
 ·have h2:¬ h=2:=of_decide_eq_false (by assumption)
  have h3:¬ h=3:=of_decide_eq_false (by assumption)
  rw [if_neg h2,if_neg h3] at hK
  skip
  refine ⟨p,rfl,by omega,?_⟩
  repeat' first|(refine fun (b:Bool) hb=>?_;cases b<;>first|exact absurd hb (by decide)|exact nfl hb|exact nfr hb|skip)|fail
  ·have h4:¬ h=4:=of_decide_eq_false (by assumption)
   rw [if_neg h4] at hK
   exact hK _ rfl
  ·have h4:h=4:=of_decide_eq_true (by assumption)
   rw [if_pos h4] at hK
   refine ⟨c,p.flatten,rfl,⟨hc h4,hp2,fun s hs=>?_⟩,?_⟩
   ·obtain ⟨l,hl,hsl⟩:=List.mem_flatten.1 hs
    exact hp3 l hl s hsl
   skip
   exact hK _ rfl
 ·have h2:¬ h=2:=of_decide_eq_false (by assumption)
  have h3:h=3:=of_decide_eq_true (by assumption)
  rw [if_neg h2,if_pos h3] at hK
  skip
  refine ⟨p,rfl,⟨hp1,fun l hl s hs=>by have:=hp3 l hl s hs;omega⟩,?_⟩
  refine ⟨_,rfl,⟨by omega,by omega⟩,?_⟩
  skip
  refine ⟨Bs,strV,[Lib.itoa (sumN p p.length)],LeL.refl _,?_⟩
  exact hK _ rfl
 ·have h2:h=2:=of_decide_eq_true (by assumption)
  rw [if_pos h2] at hK
  skip
  refine ⟨p,rfl,⟨by omega,hp1⟩,?_⟩
  skip
  exact hK _ rfl
end Gv
namespace Gv
variable [Glob] [Laid] [Nums] [Errs]
theorem makeP_ca:callable Tryz.prog 136=true:=by kernel_rfl
def makeP_P:PSpec:=fun args rows K=>∃ (n:Gp.Node) (f:List FileS) (ins:List Bs),args=[nodeV n,.sl fileV f,.own 0]∧rows=[.row 1 (ins.map blV)]∧(checkN n=0∧n.ins.length=ins.length∧ins.flatten.length≤500000∧∀ x∈f,x.b.length≤4000)∧(∀ ex,makeN n f ins=[]→K .nil (.row 1 (ins.map blV)::ex))∧(∀ ex,K (.sl blV (makeN n f ins)) (.row 1 (ins.map blV)::ex))∧(∀ b,K (.own 2) [.row 1 (ins.map blV),b,.row 1 ((makeN n f ins).map blV)])∧(∀ b c,K (.own 3) [.row 1 (ins.map blV),b,c,.row 1 ((makeN n f ins).map blV)])
noncomputable def makeP_lib:List (Nat × Spec):=[(129,bytesF_S),(123,linesL_S),(97,put_S),(191,splitLines_S),(98,linesC_S),(133,joinL_S)]
noncomputable def makeP_fns:List (Nat × FnI):=[]
noncomputable def makeP_prims:List (Nat × PSpec):=[]
theorem makeP_E:EnvOK ⟨Tryz.prog,tys,makeP_lib,makeP_fns,makeP_prims,[]⟩:=env_ok mixed0 tys0 (.cons bytesF_ca bytesF_ok (.cons linesL_ca linesL_ok (.cons put_ca put_ok (.cons splitLines_ca splitLines_ok (.cons linesC_ca linesC_ok (.cons joinL_ca joinL_ok .nil)))))) .nil .nil rfl
theorem makeP_prim:PrimOK Tryz.prog 136 makeP_P:=by
 refine prim_by makeP_E 6 makeP_ca (fi:={fn:=Tryz.f136,hooks:=[],draws:=[(5,[0,1,3,7,0,16,63,127]),(7,[0,1,0,4,12,28,63,127,255,511])]}) ⟨Tryz.func136,by kernel_rfl,by kernel_rfl⟩ ?_
 rintro args rows K ⟨n,f,ins,rfl,rfl,⟨hn,hil,hfl,hf⟩,hK1,hK2,hK3,hK4⟩
 have hgi:∀ {j:Nat} (h:j<ins.length),(ins.map blV)[j]?=some (blV ins[j]):=fun h=>by rw [List.getElem?_map,List.getElem?_eq_getElem h];rfl
 have hmk:makeN n f ins=makeN n f ins:=rfl
 conv at hmk=>(rhs;unfold makeN)
 rw [hmk] at hK1 hK2 hK3 hK4
 clear hmk
 have hshp:=checkN_shape hn
 have hfa:=fileAt_len hf n.file
 have hpf:=put_lines (fileAt f n.file)
 have hb0:=getD_flat ins 0
 have hg0:∀ h:0<ins.length,ins.getD 0 []=ins[0]:=fun h=>by rw [List.getD_eq_getElem?_getD,List.getElem?_eq_getElem h];rfl
 have hp1:=put_lines (ins.getD 0 [])
 have hl1:=linesOf_len (ins.getD 0 [])
 have hel:=linesOf_el (ins.getD 0 [])
 repeat' first|exact True.intro|(refine fun (b:Bool) hb=>?_;cases b<;>first|exact absurd hb (by decide)|exact nfl hb|exact nfr hb|skip)|(refine fun (hl:_≤MAXL)=>?_)|refine ⟨_,⟨rfl,rfl⟩,?_⟩|refine And.intro (a:=chkPast _ _ _ _ _ _ _ _) ?_ ?_|fail
 ·have k1:¬ n.kind=1:=of_decide_eq_false (by assumption)
  have k2:¬ n.kind=2:=of_decide_eq_false (by assumption)
  have k3:¬ n.kind=3:=of_decide_eq_false (by assumption)
  have k4:¬ n.kind=4:=of_decide_eq_false (by assumption)
  rw [if_neg k1,if_neg k2,if_neg k3,if_neg k4] at hK1
  conv=>whnf
  skip
  exact hK1 _ rfl
 ·have k4:n.kind=4:=of_decide_eq_true (by assumption)
  rw [if_neg (by omega),if_neg (by omega),if_neg (by omega),if_pos k4] at hK4
  conv=>whnf
  refine loop_live [3,43,44] (σ:=Nat × List (List Bs)) (fun s=>[(45,.int .i64 s.1),(7,.own 2)]) (fun s=>[.row 1 (ins.map blV),.box (nodeV n).cells,.row 1 (s.2.map lsV)]) (fun s=>s.1≤ins.length∧s.2=(ins.take s.1).map linesOf) (fun s=>ins.length-s.1) (0,[]) ?_
  conv=>whnf
  refine ⟨(by (refine wk_sel [some 0,some 1,none] rfl rfl ?_ ?_<;>(repeat' first|exact True.intro|exact rfl|exact .inl rfl|exact .inr rfl|refine And.intro ?_ ?_|fail))),⟨Nat.zero_le _,by simp⟩,fun s hs=>?_⟩
  obtain ⟨i,ls⟩:=s
  obtain ⟨hi,hls⟩:=hs
  dsimp only at hi hls
  repeat' first|refine ⟨_,_,_,LeL.refl _,?_⟩|(refine fun (b:Bool) hb=>?_;cases b<;>first|exact absurd hb (by decide)|exact nfl hb|exact nfr hb|skip)|refine ⟨rfl,?_⟩|fail
  ·have hge:¬ (i:Int)<(ins.length:Int) := by
    have h:=of_decide_eq_false (by assumption:decide ((i:Int)<((ins.map blV).length:Int))=false)
    rwa [List.length_map] at h
   rw [List.take_of_length_le (by omega)] at hls
   subst hls
   have hpf2:=put_flat ins
   have hpl:=put_len (l:=(ins.map linesOf).flatten) (n:=600000) (by omega)
   have hjc:checkJoin n.how n.c=0:=by
    rcases hshp with h|h|h|h|h
    ·omega
    ·omega
    ·omega
    ·exact h.2.2.2
    ·omega
   have hjp:=joinB_put9 (checkJoin_four hjc).1 (ins.map linesOf) (by rw [List.length_map];omega) (by omega)
   conv=>whnf
   refine ⟨n.how,n.c,ins.map linesOf,rfl,⟨(checkJoin_four hjc).1,by rw [List.length_map];omega,by omega,fun l hl s hsl=>?_⟩,?_⟩
   ·have:=put_el (List.mem_flatten.2 ⟨l,hl,hsl⟩)
    omega
   refine ⟨joinB n.how n.c (ins.map linesOf),rfl,by omega,?_⟩
   conv=>whnf
   exact hK4 _ _
  have hlt:i<ins.length:=by
   have h:=of_decide_eq_true (by assumption:decide ((i:Int)<((ins.map blV).length:Int))=true)
   rw [List.length_map] at h
   omega
  refine ⟨i,rfl,by rw [List.length_map];exact hlt,?_⟩
  conv=>whnf
  refine ⟨_,hgi hlt,?_⟩
  repeat' first|refine And.intro (a:=I64 _) ?_ ?_|refine And.intro (a:=_≤140737488355328) ?_ ?_|refine ⟨_,rfl,?_,rfl,?_⟩|fail
  ·have:=el_flat (List.getElem_mem hlt)
   show ins[i].length≤1000000
   omega
  ·show ((ls.map lsV).length+1)*24≤140737488355328
   rw [List.length_map,hls,List.length_map,List.length_take]
   omega
  ·unfold I64;(try dsimp only);omega
  refine ⟨(i+1,ls++[linesOf ins[i]]),?_,⟨hlt,?_⟩,by show ins.length-(i+1)<ins.length-i;omega⟩
  ·show Wk _ _ _ _ [.row 1 (ins.map blV),.box (nodeV n).cells,.row 1 ((ls++[linesOf ins[i]]).map lsV)]
   rw [List.map_append]
   exact (by (refine wk_sel [some 0,some 1,some 4] rfl rfl ?_ ?_<;>(repeat' first|exact True.intro|exact rfl|exact .inl rfl|exact .inr rfl|refine And.intro ?_ ?_|fail)))
  ·show ls++[linesOf ins[i]]=(ins.take (i+1)).map linesOf
   rw [List.take_succ_eq_append_getElem hlt,List.map_append,hls]
   rfl
 ·have k3:n.kind=3:=of_decide_eq_true (by assumption)
  have h0:0<ins.length:=by omega
  have hc:checkCmd n.c=0:=by
   rcases hshp with h|h|h|h|h
   ·omega
   ·omega
   ·exact h.2.2
   ·omega
   ·omega
  rw [if_neg (by omega),if_neg (by omega),if_pos k3] at hK2
  rw [hg0 h0] at hb0 hp1 hl1 hel hK2
  have hlp:=linesC_put9 hc (linesOf ins[0]) (by omega)
  conv=>whnf
  skip
  apply Exists.intro
  apply And.intro
  ·refine ⟨rfl,0,rfl,by rw [List.length_map];exact h0,?_⟩
   exact ⟨rfl,rfl⟩
  conv=>whnf
  refine ⟨trivial,?_⟩
  conv=>whnf
  apply Exists.intro
  apply And.intro
  ·conv=>whnf
   refine ⟨_,hgi h0,?_⟩
   repeat' first|refine ⟨rfl,?_⟩|fail
   exact rfl
  conv=>whnf
  refine ⟨trivial,?_⟩
  conv=>whnf
  apply Exists.intro
  apply And.intro
  ·refine ⟨ins[0],rfl,by omega,?_⟩
   exact ⟨rfl,rfl⟩
  skip
  apply Exists.intro
  apply And.intro
  ·refine ⟨n.c,linesOf ins[0],rfl,⟨hc,by omega,fun s hs=>by have:=hel s hs;omega⟩,?_⟩
   exact ⟨rfl,rfl⟩
  skip
  apply Exists.intro
  apply And.intro
  ·refine ⟨linesC n.c (linesOf ins[0]),rfl,by omega,?_⟩
   exact ⟨rfl,rfl⟩
  skip
  refine ⟨_,⟨Bs,blV,[put (linesC n.c (linesOf ins[0]))],LeL.refl _,rfl,rfl⟩,?_⟩
  repeat' first|refine ⟨_,⟨rfl,rfl⟩,?_⟩|fail
  conv=>whnf
  exact hK2 _
 ·have k2:n.kind=2:=of_decide_eq_true (by assumption)
  have h0:0<ins.length:=by omega
  obtain ⟨w,hw⟩:∃ w:Nat,n.wide=w:=⟨n.wide.toNat,by omega⟩
  rw [if_neg (by omega),if_pos k2] at hK2
  rw [hg0 h0] at hb0 hp1 hl1 hel hK2
  rw [hw,Int.toNat_natCast] at hK2
  conv=>whnf
  skip
  apply Exists.intro
  apply And.intro
  ·refine ⟨rfl,0,rfl,by rw [List.length_map];exact h0,?_⟩
   exact ⟨rfl,rfl⟩
  conv=>whnf
  refine ⟨trivial,?_⟩
  conv=>whnf
  apply Exists.intro
  apply And.intro
  ·conv=>whnf
   refine ⟨_,hgi h0,?_⟩
   repeat' first|refine ⟨rfl,?_⟩|fail
   exact rfl
  conv=>whnf
  refine ⟨trivial,?_⟩
  conv=>whnf
  apply Exists.intro
  apply And.intro
  ·refine ⟨ins[0],rfl,by omega,?_⟩
   exact ⟨rfl,rfl⟩
  repeat' first|exact True.intro|refine ⟨_,⟨rfl,rfl⟩,?_⟩|refine And.intro (a:=chkPast _ _ _ _ _ _ _ _) ?_ ?_|fail
  apply Exists.intro
  apply And.intro
  ·refine ⟨linesOf ins[0],w,by rw [hw],⟨by omega,by omega,by omega⟩,?_⟩
   exact ⟨rfl,rfl⟩
  repeat' first|refine ⟨_,⟨rfl,rfl⟩,?_⟩|fail
  conv=>whnf
  exact hK2 _
 ·have k1:n.kind=1:=of_decide_eq_true (by assumption)
  rw [if_pos k1] at hK3
  conv=>whnf
  refine ⟨f,n.file,rfl,fun x hx=>by have:=hf x hx;omega,?_⟩
  refine ⟨fileAt f n.file,rfl,by omega,?_⟩
  refine ⟨linesOf (fileAt f n.file),rfl,by omega,?_⟩
  skip
  conv=>whnf
  exact hK3 _
end Gv
namespace Gv
variable [Glob] [Laid] [Nums] [Errs]
def makeD_P:PSpec:=fun args rows K=>∃ (n:Gp.Node) (f:List FileS) (ins:List Bs),args=[nodeV n,.sl fileV f,.own 0]∧rows=[.row 1 (ins.map blV)]∧(checkN n=0∧n.ins.length=ins.length∧ins.flatten.length≤500000∧∀ x∈f,x.b.length≤4000)∧∀ ex,K (.sl blV (makeN n f ins)) (.row 1 (ins.map blV)::ex)
theorem makeD_prim:PrimOK Tryz.prog 136 makeD_P:=by
 intro w0 m0 args rows K R m q w us C hv hT
 obtain ⟨n,f,ins,rfl,rfl,hc,hK⟩:=hT
 refine prim_frz makeP_prim w0 m0 _ _ K R m q w us C hv (.inr ⟨n,f,ins,rfl,rfl,hc,fun ex he=>?_,fun ex=>?_,fun b=>?_,fun b c=>?_⟩)
 ·refine ⟨Bs,blV,?_⟩
  have:=hK ex
  rw [he] at this
  exact this
 ·exact hK ex
 ·refine ⟨Bs,blV,makeN n f ins,LeL.refl _,?_⟩
  exact hK _
 ·refine ⟨Bs,blV,makeN n f ins,LeL.refl _,?_⟩
  exact hK _
end Gv
namespace Gv
variable [Glob] [Laid] [Nums] [Errs]
def makeE_P:PSpec:=fun args rows K=>∃ (n:Gp.Node) (f:List FileS) (ins:List Bs),args=[nodeV n,.sl fileV f,.own 0]∧rows=[.row 1 (ins.map blV)]∧(checkN n=0∧n.ins.length=ins.length∧ins.flatten.length≤500000∧∀ x∈f,x.b.length≤4000)∧K (.sl blV (makeN n f ins)) [.row 1 (ins.map blV)]
theorem makeE_prim:PrimOK Tryz.prog 136 makeE_P:=by
 intro w0 m0 args rows K R m q w us C hv hT
 obtain ⟨n,f,ins,rfl,rfl,hc,hK⟩:=hT
 exact prim_cut makeD_prim w0 m0 _ _ K R m q w us C hv ⟨n,f,ins,rfl,rfl,hc,fun ex=>⟨[.row 1 (ins.map blV)],ex,rfl,Nat.le_refl _,fun y hy=>by simp at hy;subst hy;rfl,rfl,hK⟩⟩
end Gv
namespace Gv
variable [Glob] [Laid] [Nums] [Errs]
theorem catL_nil (a:List Bs):catL a []=a:=by cases a<;>rfl
theorem catL_step:∀ (a b:List Bs) (k:Nat) (hk:k<a.length) (hb:k<b.length),(catL a (b.take k)).set k (a[k]++b[k])=catL a (b.take (k+1))
 | x::r,y::s,0,_,_=>by simp [catL,catL_nil]
 | x::r,y::s,k+1,hk,hb=>by
  have:=catL_step r s k (by simpa using hk) (by simpa using hb)
  simp only [List.take_succ_cons,catL,List.set_cons_succ,List.getElem_cons_succ]
  rw [this]
theorem fullF_ca:callable Tryz.prog 258=true:=by kernel_rfl
def fullF_P:PSpec:=fun args rows K=>∃ (m:MachS) (i:Nat) (els:List V),args=[.ptr 0 0 0,.int .i64 i]∧FocOK m i els∧(pr m i).got.flatten.length≤500000∧rows=focR m i els∧∀ ex,K (.tup []) (focR (fullM m i) i els++ex)
noncomputable def fullF_lib:List (Nat × Spec):=[(296,concatB_S)]
noncomputable def fullF_fns:List (Nat × FnI):=[]
noncomputable def fullF_prims:List (Nat × PSpec):=[(136,makeE_P)]
theorem fullF_E:EnvOK ⟨Tryz.prog,tys,fullF_lib,fullF_fns,fullF_prims,[]⟩:=env_ok mixed0 tys0 (.cons concatB_ca concatB_ok .nil) .nil (.cons makeE_prim .nil) rfl
theorem fullF_prim:PrimOK Tryz.prog 258 fullF_P:=by
 refine prim_by fullF_E 6 fullF_ca (fi:={fn:=Tryz.f258,hooks:=[1,7],draws:=[(0,[0,1,3,7,0,31,0,64,192,448,960,0,4032,8128,0,16447,65535]),(2,[0,0,2,6,14,0,32,96,224,511,1023,0]),(5,[0,1,3,7,0,0,32,96,224,0,992,2016,0,8160,16352,32767,65535])]}) ⟨Tryz.func258,by kernel_rfl,by kernel_rfl⟩ ?_
 rintro args rows K ⟨m,i,els,rfl,h,hsz,rfl,hK⟩
 have hei:(els.set i (procF (pr m i)))[i]?=some (procF (pr m i)):=List.getElem?_set_self (by rw [h.nl];exact h.lt)
 have hel:(els.set i (procF (pr m i))).length=m.g.length:=by rw [List.length_set,h.nl]
 have hpe:=h.pe
 have hgf:=gf_of h.g
 have hnd:ndG m.g i=m.g[i]'(h.lt):=ndG_at h.lt
 unfold focR
 conv=>whnf
 refine join_live [0] (σ:=Unit) (fun _=>[(4,.ptr 2 i 0),(5,.ptr 5 0 0)]) (fun _=>[.box [.sl nodeV m.g,.sl fileV m.f,.own 1,.own 2,.sl byteV m.sunk],.row 4 (m.pipes.map pipeV),.rowq 5 (els.set i (procF (pr m i))),.row 1 ((pr m i).got.map blV),.row 1 ((pr m i).out.map blV),.box (nodeV (ndG m.g i)).cells]) (fun _=>True) ?_
 conv=>whnf
 refine ⟨?_,fun _ _=>?_⟩
 ·conv=>whnf
  repeat' first|exact True.intro|refine ⟨_,⟨rfl,rfl⟩,?_⟩|refine And.intro (a:=chkPast _ _ _ _ _ _ _ _) ?_ ?_|fail
  conv=>whnf
  skip
  apply Exists.intro
  apply And.intro
  ·repeat' first|refine ⟨_,rfl,?_,rfl,?_⟩|refine ⟨rfl,?_⟩|fail
   ·rw [hel];exact h.lt
   ·exact rfl
  conv=>whnf
  refine ⟨trivial,?_⟩
  conv=>whnf
  repeat' first|exact True.intro|refine ⟨_,⟨rfl,rfl⟩,?_⟩|refine ⟨_,_,⟨rfl,rfl⟩,?_⟩|refine And.intro (a:=chkPend _ _ _ _ _ _) ?_ ?_|refine And.intro (a:=chkPast _ _ _ _ _ _ _ _) ?_ ?_|refine ⟨⟨rfl,rfl⟩,?_⟩|refine ⟨_,⟨_,rfl,?_,rfl,rfl,rfl⟩,?_⟩|fail
  conv=>whnf
  skip
  ·exact h.lt
  ·conv=>whnf
   skip
   refine ⟨?_,?_⟩
   ·conv=>whnf
    refine ⟨rfl,i,rfl,by rw [hel];exact h.lt,?_⟩
    exact ⟨rfl,rfl⟩
   ·conv=>whnf
    repeat' first|exact True.intro|refine ⟨⟨rfl,rfl⟩,?_⟩|fail
    all_goals done
  conv=>whnf
  skip
  conv=>whnf
  skip
  rw [hnd]
  exact ⟨(),(by (refine wk_sel [some 0,some 1,some 2,some 3,some 4,some 5] rfl rfl ?_ ?_<;>(repeat' (first|exact wkEls_foc hpe rfl rfl|exact True.intro|exact rfl|exact Or.inl rfl|exact Or.inr rfl|refine And.intro ?_ ?_|fail)))),trivial⟩
 have hset:∀ x y:V,(els.set i x).set i y=els.set i y:=fun x y=>by rw [List.set_set]
 conv=>whnf
 refine ⟨_,hei,?_⟩
 conv=>whnf
 refine join_live [4] (σ:=Unit) (fun _=>[]) (fun _=>[.box [.sl nodeV m.g,.sl fileV m.f,.own 1,.own 2,.sl byteV m.sunk],.row 4 (m.pipes.map pipeV),.rowq 5 (els.set i (procF ⟨(pr m i).got,(pr m i).pos,(pr m i).out,true,(pr m i).over⟩)),.row 1 ((pr m i).got.map blV),.row 1 ((catL (pr m i).out (makeN (ndG m.g i) m.f (pr m i).got)).map blV)]) (fun _=>True) ?_
 conv=>whnf
 refine ⟨?_,fun _ _=>?_⟩
 ·conv=>whnf
  repeat' first|exact True.intro|refine ⟨_,⟨rfl,rfl⟩,?_⟩|refine And.intro (a:=chkPast _ _ _ _ _ _ _ _) ?_ ?_|fail
  conv=>whnf
  skip
  apply Exists.intro
  apply And.intro
  ·conv=>whnf
   refine ⟨_,List.getElem?_set_self (by rw [hel];exact h.lt),?_⟩
   repeat' first|refine ⟨rfl,?_⟩|fail
   exact rfl
  conv=>whnf
  refine ⟨trivial,?_⟩
  conv=>whnf
  skip
  have hcn:checkN (ndG m.g i)=0:=hgf.node i h.lt
  have hil:(ndG m.g i).ins.length=(pr m i).got.length:=h.got.symm
  have hfb:∀ x∈m.f,x.b.length≤4000:=fun x hx=>((checkFiles_ok h.f).2 x hx).2
  have hml:=makeN_len hcn hil hfb hsz
  have hmo:=makeN_outs (f:=m.f) (ins:=(pr m i).got) hcn
  apply Exists.intro
  apply Exists.intro
  apply And.intro
  ·refine ⟨ndG m.g i,m.f,(pr m i).got,rfl,rfl,⟨hcn,hil,hsz,hfb⟩,?_⟩
   repeat' first|refine ⟨rfl,?_⟩|fail
   exact rfl
  conv=>whnf
  repeat' first|exact True.intro|refine ⟨_,⟨rfl,rfl⟩,?_⟩|refine ⟨_,(fun _=>⟨rfl,rfl⟩),?_⟩|refine And.intro (a:=chkPend _ _ _ _ _ _) ?_ ?_|fail
  conv=>whnf
  skip
  conv=>whnf
  refine loop_live [4,35,36] (σ:=Nat) (fun k=>[(37,.int .i64 k)]) (fun k=>[.box [.sl nodeV m.g,.sl fileV m.f,.own 1,.own 2,.sl byteV m.sunk],.row 4 (m.pipes.map pipeV),.rowq 5 (els.set i (procF ⟨(pr m i).got,(pr m i).pos,(pr m i).out,true,(pr m i).over⟩)),.row 1 ((pr m i).got.map blV),.row 1 ((catL (pr m i).out ((makeN (ndG m.g i) m.f (pr m i).got).take k)).map blV)]) (fun k=>k≤(makeN (ndG m.g i) m.f (pr m i).got).length) (fun k=>(makeN (ndG m.g i) m.f (pr m i).got).length-k) 0 ?_
  conv=>whnf
  refine ⟨?_,Nat.zero_le _,fun k hk=>?_⟩
  ·have hc0:catL (pr m i).out ((makeN (ndG m.g i) m.f (pr m i).got).take 0)=(pr m i).out:=by rw [List.take_zero];cases (pr m i).out<;>rfl
   rw [hset,hc0]
   refine wk_sel [some 0,some 1,some 2,some 3,some 4] rfl rfl ?_ ?_<;>(repeat' (first|exact wkEls_foc2 hpe ⟨rfl,rfl,rfl,Or.inr rfl,rfl,trivial⟩|exact True.intro|exact rfl|exact Or.inl rfl|exact Or.inr rfl|refine And.intro ?_ ?_|fail))
   all_goals done
  repeat' first|(refine fun (b:Bool) hb=>?_;cases b<;>first|exact absurd hb (by decide)|exact nfl hb|exact nfr hb|skip)|refine ⟨_,⟨rfl,rfl⟩,?_⟩|refine ⟨_,rfl,?_,rfl,?_⟩|fail
  ·have hkl:k=(makeN (ndG m.g i) m.f (pr m i).got).length := by
    have h:=of_decide_eq_false (by assumption:decide ((k:Int)<((makeN (ndG m.g i) m.f (pr m i).got).length:Int))=false)
    omega
   subst hkl
   refine ⟨(),?_,trivial⟩
   rw [List.take_length]
   exact (by (refine wk_sel [some 0,some 1,some 2,some 3,some 4] rfl rfl ?_ ?_<;>(repeat' (first|exact wkEls_foc hpe rfl rfl|exact True.intro|exact rfl|exact Or.inl rfl|exact Or.inr rfl|refine And.intro ?_ ?_|fail))))
  ·have h:=of_decide_eq_true (by assumption:decide ((k:Int)<((makeN (ndG m.g i) m.f (pr m i).got).length:Int))=true)
   exact (by omega:k<(makeN (ndG m.g i) m.f (pr m i).got).length)
  have hk2:k<(makeN (ndG m.g i) m.f (pr m i).got).length:=by
   have h:=of_decide_eq_true (by assumption:decide ((k:Int)<((makeN (ndG m.g i) m.f (pr m i).got).length:Int))=true)
   omega
  have hko:k<(pr m i).out.length:=by
   have h1:=h.out
   unfold nO at h1
   omega
  have hcl:k<(catL (pr m i).out ((makeN (ndG m.g i) m.f (pr m i).got).take k)).length:=by rw [catL_len];exact hko
  have hgc:((catL (pr m i).out ((makeN (ndG m.g i) m.f (pr m i).got).take k)).map blV)[k]?=some (blV (pr m i).out[k]):=by
   rw [List.getElem?_map,List.getElem?_eq_getElem hcl]
   have h1:=catL_at (pr m i).out ((makeN (ndG m.g i) m.f (pr m i).got).take k) k hko
   rw [List.getD_eq_getElem?_getD,List.getElem?_eq_getElem hcl,List.getD_eq_getElem?_getD,List.getElem?_eq_getElem hko,List.getD_eq_getElem?_getD,List.getElem?_eq_none (by rw [List.length_take];omega)] at h1
   simp only [Option.getD_some,Option.getD_none,List.append_nil] at h1
   rw [h1];rfl
  conv=>whnf
  skip
  conv=>whnf
  apply Exists.intro
  apply And.intro
  ·conv=>whnf
   refine ⟨_,List.getElem?_set_self (by rw [h.nl];exact h.lt),?_⟩
   repeat' first|refine ⟨rfl,?_⟩|fail
   exact rfl
  conv=>whnf
  refine ⟨trivial,?_⟩
  conv=>whnf
  repeat' first|refine ⟨_,⟨rfl,rfl⟩,?_⟩|fail
  conv=>whnf
  apply Exists.intro
  apply And.intro
  ·conv=>whnf
   refine ⟨_,List.getElem?_set_self (by rw [h.nl];exact h.lt),?_⟩
   repeat' first|refine ⟨rfl,?_⟩|fail
   exact rfl
  conv=>whnf
  refine ⟨trivial,?_⟩
  conv=>whnf
  repeat' first|refine ⟨_,⟨rfl,rfl⟩,?_⟩|fail
  conv=>whnf
  skip
  apply Exists.intro
  apply And.intro
  ·refine ⟨rfl,k,rfl,by rw [List.length_map];exact hcl,?_⟩
   exact ⟨rfl,rfl⟩
  conv=>whnf
  refine ⟨trivial,?_⟩
  conv=>whnf
  apply Exists.intro
  apply And.intro
  ·conv=>whnf
   refine ⟨_,hgc,?_⟩
   repeat' first|refine ⟨rfl,?_⟩|fail
   exact rfl
  conv=>whnf
  refine ⟨trivial,?_⟩
  conv=>whnf
  repeat' first|refine ⟨_,⟨rfl,rfl⟩,?_⟩|fail
  conv=>whnf
  skip
  refine ⟨_,⟨Bs,blV,[(pr m i).out[k],(makeN (ndG m.g i) m.f (pr m i).got)[k]],LeL.refl _,rfl,rfl⟩,?_⟩
  skip
  have hol:((pr m i).out[k]).length≤400000:=h.big _ (List.mem_append_right _ (List.getElem_mem hko))
  have hnl:=el_flat (List.getElem_mem hk2)
  apply Exists.intro
  apply And.intro
  ·refine ⟨[(pr m i).out[k],(makeN (ndG m.g i) m.f (pr m i).got)[k]],rfl,?_,?_⟩
   ·simp only [List.flatten_cons,List.flatten_nil,List.append_nil,List.length_append]
    omega
   ·exact ⟨rfl,rfl⟩
  conv=>whnf
  skip
  apply Exists.intro
  apply And.intro
  ·refine ⟨rfl,k,rfl,by rw [List.length_map];exact hcl,?_⟩
   exact ⟨rfl,rfl⟩
  conv=>whnf
  refine ⟨trivial,?_⟩
  conv=>whnf
  apply Exists.intro
  apply Exists.intro
  apply And.intro
  ·conv=>whnf
   refine ⟨by rw [List.length_map];exact hcl,?_⟩
   exact ⟨rfl,rfl⟩
  conv=>whnf
  repeat' first|exact True.intro|refine And.intro (a:=I64 _) ?_ ?_|refine And.intro (a:=chkPend _ _ _ _ _ _) ?_ ?_|fail
  conv=>whnf
  skip
  ·have hM:=(catL_len (pr m i).out ((makeN (ndG m.g i) m.f (pr m i).got).take k))
   have ho:=(outsN_bnd hcn).2
   omega
  refine ⟨k+1,?_,by omega,by omega⟩
  have hst:=catL_step (pr m i).out (makeN (ndG m.g i) m.f (pr m i).got) k hko hk2
  have he:[(pr m i).out[k],(makeN (ndG m.g i) m.f (pr m i).got)[k]].flatten=(pr m i).out[k]++(makeN (ndG m.g i) m.f (pr m i).got)[k]:=by simp
  rw [←hst,List.map_set,←he]
  exact (by (refine wk_sel [some 0,some 1,some 2,some 3,some 4] rfl rfl ?_ ?_<;>(repeat' (first|exact wkEls_foc hpe rfl rfl|exact True.intro|exact rfl|exact Or.inl rfl|exact Or.inr rfl|refine And.intro ?_ ?_|fail))))
 have hei2:(els.set i (procF ⟨(pr m i).got,(pr m i).pos,(pr m i).out,true,(pr m i).over⟩))[i]?=some (procF ⟨(pr m i).got,(pr m i).pos,(pr m i).out,true,(pr m i).over⟩):=List.getElem?_set_self (by rw [h.nl];exact h.lt)
 conv=>whnf
 refine ⟨_,hei2,?_⟩
 conv=>whnf
 repeat' first|(refine fun (hl:_≤MAXL)=>?_)|fail
 conv=>whnf
 refine loop_live [4,63] (σ:=Nat) (fun k=>[(64,.int .i64 k)]) (fun k=>[.box [.sl nodeV m.g,.sl fileV m.f,.own 1,.own 2,.sl byteV m.sunk],.row 4 (m.pipes.map pipeV),.rowq 5 (els.set i (procF ⟨(pr m i).got,(pr m i).pos,(pr m i).out,true,(pr m i).over⟩)),.row 1 ((List.replicate k []++(pr m i).got.drop k).map blV),.row 1 ((catL (pr m i).out (makeN (ndG m.g i) m.f (pr m i).got)).map blV)]) (fun k=>k≤(pr m i).got.length) (fun k=>(pr m i).got.length-k) 0 ?_
 conv=>whnf
 refine ⟨(by (refine wk_sel [some 0,some 1,some 2,some 3,some 4] rfl rfl ?_ ?_<;>(repeat' (first|exact wkEls_foc hpe rfl rfl|exact True.intro|exact rfl|exact Or.inl rfl|exact Or.inr rfl|refine And.intro ?_ ?_|fail)))),Nat.zero_le _,fun k hk=>?_⟩
 have hgl:(List.replicate k ([]:Bs)++(pr m i).got.drop k).length=(pr m i).got.length:=by simp;omega
 repeat' first|(refine fun (b:Bool) hb=>?_;cases b<;>first|exact absurd hb (by decide)|exact nfl hb|exact nfr hb|skip)|fail
 ·have hkl:k=(pr m i).got.length := by
   have h:=of_decide_eq_false (by assumption:decide ((k:Int)<(((pr m i).got.map blV).length:Int))=false)
   rw [List.length_map] at h
   omega
  subst hkl
  conv=>whnf
  skip
  have hpi:pr (fullM m i) i=fullP (ndG m.g i) m.f (pr m i):=by
   unfold fullM
   rw [pr_setP (by rw [h.np];exact h.lt),if_pos rfl]
  have hrep:(pr m i).got.map (fun _=>([]:Bs))=List.replicate (pr m i).got.length []++(pr m i).got.drop (pr m i).got.length:=by
   rw [List.drop_length,List.append_nil,List.map_const']
  have e:focR (fullM m i) i els=[.box [.sl nodeV m.g,.sl fileV m.f,.own 1,.own 2,.sl byteV m.sunk],.row 4 (m.pipes.map pipeV),.rowq 5 (els.set i (procF ⟨(pr m i).got,(pr m i).pos,(pr m i).out,true,(pr m i).over⟩)),.row 1 ((List.replicate (pr m i).got.length ([]:Bs)++(pr m i).got.drop (pr m i).got.length).map blV),.row 1 ((catL (pr m i).out (makeN (ndG m.g i) m.f (pr m i).got)).map blV)]:=by
   unfold focR
   rw [hpi,←hrep]
   rfl
  have hfin:=hK []
  rw [e] at hfin
  exact hfin
 have hk2:k<(pr m i).got.length:=by
  have h:=of_decide_eq_true (by assumption:decide ((k:Int)<(((pr m i).got.map blV).length:Int))=true)
  rw [List.length_map] at h
  omega
 conv=>whnf
 skip
 refine ⟨_,hei2,?_⟩
 repeat' first|refine ⟨rfl,?_⟩|fail
 refine ⟨k,rfl,by rw [List.length_map,hgl];exact hk2,?_⟩
 conv=>whnf
 refine ⟨by rw [List.length_map,hgl];exact hk2,?_⟩
 repeat' first|refine And.intro (a:=I64 _) ?_ ?_|fail
 ·have hM:((pr m i).got.map blV).length≤MAXL:=by assumption
  rw [List.length_map] at hM
  unfold I64;unfold MAXL at hM;omega
 refine ⟨k+1,?_,by omega,by omega⟩
 have hset2:(List.replicate k ([]:Bs)++(pr m i).got.drop k).set k []=List.replicate (k+1) []++(pr m i).got.drop (k+1):=by
  rw [List.set_append_right _ _ (by simp),List.length_replicate,Nat.sub_self,List.drop_eq_getElem_cons hk2,List.set_cons_zero,List.replicate_succ']
  simp
 rw [←hset2]
 exact (wk_le 3 rfl (leL_nil k)).trans (by (refine wk_sel [some 0,some 1,some 2,some 3,some 4] rfl rfl ?_ ?_<;>(repeat' (first|exact wkEls_foc hpe rfl rfl|exact True.intro|exact rfl|exact Or.inl rfl|exact Or.inr rfl|refine And.intro ?_ ?_|fail))))
end Gv
namespace Gv
variable [Glob] [Laid]
theorem comp_none {l:Bs} (h:(10:UInt8) ∉ l):comp l=[]:=(comp_uniq (a:=[]) (.inl rfl) h).1
theorem comp_hit {l:Bs} {j:Nat} (hj:j<l.length) (h:l[j]=10) (hn:(10:UInt8) ∉ l.drop (j+1)):comp l=l.take (j+1):=by
 have e:l=l.take (j+1)++l.drop (j+1):=(List.take_append_drop _ _).symm
 have he:ended (l.take (j+1)):=by
  right
  rw [List.take_succ_eq_append_getElem hj,h]
  simp
 have:=(comp_uniq he hn).1
 rwa [List.take_append_drop] at this
theorem comp_len (l:Bs):(comp l).length≤l.length∧l.take (comp l).length=comp l∧l.drop (comp l).length=rest l:=by
 have h:=comp_rest l
 refine ⟨by conv => rhs; rw [← h, List.length_append]
            omega,?_,?_⟩
 ·conv=>lhs;arg 2;rw [←h]
  rw [List.take_left]
 ·conv=>lhs;arg 2;rw [←h]
  rw [List.drop_left]
theorem lastB_ca:callable Tryz.prog 316=true:=by kernel_rfl
def lastB_S:Spec:=fun args K=>∃ (l:Bs),args=[.sl byteV l,.int .u8 10]∧K (.int .i64 (((comp l).length:Int)-1))
noncomputable def lastB_lib:List (Nat × Spec):=[]
noncomputable def lastB_fns:List (Nat × FnI):=[]
noncomputable def lastB_prims:List (Nat × PSpec):=[]
theorem lastB_E:EnvOK ⟨Tryz.prog,tys,lastB_lib,lastB_fns,lastB_prims,[]⟩:=env_ok mixed0 tys0 .nil .nil .nil rfl
theorem lastB_ok:Pure Tryz.prog 316 lastB_S:=by
 refine pure_by lastB_E 6 (fi:={fn:=Tryz.f316,hooks:=[],draws:=[]}) ⟨Tryz.func316,by kernel_rfl,by kernel_rfl⟩ ?_
 rintro _ K ⟨l,rfl,hK⟩
 replace hK:∀ r,r=.int .i64 (((comp l).length:Int)-1)→K r:=fun r h=>h ▸ hK
 repeat' first|(refine fun (hl:_≤MAXL)=>?_)|refine And.intro (a:=I64 _) ?_ ?_|fail
 ·have hM:l.length≤MAXL:=by assumption
  unfold I64;unfold MAXL at hM;omega
 conv=>whnf
 refine loop_live [0,1] (σ:=Nat) (fun j=>[(5,.int .i64 ((j:Int)-1))]) (fun _=>[]) (fun j=>j≤l.length∧(10:UInt8) ∉ l.drop j) (fun j=>j) l.length ?_
 conv=>whnf
 refine ⟨(by (refine wk_sel [] rfl rfl ?_ ?_<;>(repeat' first|exact True.intro|exact rfl|exact .inl rfl|exact .inr rfl|refine And.intro ?_ ?_|fail))),⟨Nat.le_refl _,by simp⟩,fun j hj=>?_⟩
 obtain ⟨hj,hn⟩:=hj
 repeat' first|(refine fun (b:Bool) hb=>?_;cases b<;>first|exact absurd hb (by decide)|exact nfl hb|exact nfr hb|skip)|fail
 ·have h0:j=0 := by
   have h:=of_decide_eq_false (by assumption:decide (0≤(j:Int)-1)=false)
   omega
  subst h0
  conv=>whnf
  skip
  refine hK _ ?_
  rw [comp_none (by simpa using hn)]
  rfl
 have h0:0<j:=by
  have h:=of_decide_eq_true (by assumption:decide (0≤(j:Int)-1)=true)
  omega
 obtain ⟨k,rfl⟩:∃ k,j=k+1:=⟨j-1,by omega⟩
 conv=>whnf
 refine ⟨k,by omega,hj,?_⟩
 repeat' first|(refine fun (b:Bool) hb=>?_;cases b<;>first|exact absurd hb (by decide)|exact nfl hb|exact nfr hb|skip)|refine And.intro (a:=I64 _) ?_ ?_|refine ⟨rfl,?_⟩|fail
 ·have hM:l.length≤MAXL:=by assumption
  unfold I64;unfold MAXL at hM;omega
 ·refine ⟨k,?_,⟨by omega,?_⟩,by omega⟩
  ·show Wk _ _ _ ([(5,.int .i64 ((k:Int)-1))]++_) _
   rw [show (k:Int)-1=((k+1:Nat):Int)-1-1 by omega]
   exact (by (refine wk_sel [] rfl rfl ?_ ?_<;>(repeat' first|exact True.intro|exact rfl|exact .inl rfl|exact .inr rfl|refine And.intro ?_ ?_|fail)))
  ·rw [List.drop_eq_getElem_cons hj]
   intro h
   rcases List.mem_cons.1 h with h|h
   ·have h2:=of_decide_eq_false (by assumption:decide ((l[k].toNat:Int)=10)=false)
    rw [←h] at h2
    exact h2 rfl
   ·exact hn h
 ·have h2:=of_decide_eq_true (by assumption:decide ((l[k].toNat:Int)=10)=true)
  have h3:l[k]=10:=by
   apply UInt8.toNat.inj
   have:(10:UInt8).toNat=10:=rfl
   omega
  conv=>whnf
  skip
  refine hK _ ?_
  rw [comp_hit hj h3 hn,List.length_take,Nat.min_eq_left hj]
end Gv
namespace Gv
variable [Glob] [Laid]
theorem countB_ca:callable Tryz.prog 298=true:=by kernel_rfl
def countB_S:Spec:=fun args K=>∃ (l:List UInt8),args=[.sl byteV l,.sl byteV [10]]∧K (.int .i64 ((l.count 10:Nat):Int))
theorem countB_ok:Pure Tryz.prog 298 countB_S:=by
 refine pure_look fun w m args us K hm hg hl hv hT=>?_
 obtain ⟨l,rfl,hK⟩:=hT
 obtain ⟨a,b,rfl,ha,hb⟩:=args2 hl hv
 obtain ⟨p,c,rfl,hp,hlc,hc,hx⟩:=bytes_open ha hm
 obtain ⟨p2,c2,rfl,hp2,hlc2,hc2,hx2⟩:=bytes_open hb hm
 refine ⟨_,_,hK,.int,?_⟩
 match p2,hp2,hx2 with
 | none,hp2,_=>exact absurd (hp2 rfl).1 (by simp)
 | some ⟨b2,o2,sp2⟩,_,hx2 =>
  obtain ⟨h1,h2⟩:=hx2 b2 o2 sp2 rfl
  have hs:sp2=none:=h1.resolve_right (by simp)
  subst hs
  have h3:=h2 0 (by simp)
  have h4:w.cell? ⟨b2,o2,none⟩=some (.int .u8 10):=by simpa [Addr.add,numsOf] using h3
  match p,hp,hx with
  | none,hp,_ =>
   obtain ⟨rfl,rfl⟩:=hp rfl
   exact (Tryz.bytes_Count_one_nil b2 o2 c2 10 w h4).mono fun e w' ⟨he,hw⟩=>⟨by rw [he];rfl,by subst hw;exact Bel.refl _ _⟩
  | some ⟨b1,o1,sp1⟩,_,hx =>
   refine (Tryz.bytes_Count_one_at ⟨b1,o1,sp1⟩ l.length c b2 o2 c2 (numsOf l) 10 w (numsOf_length l) (fun i hi=>(hx b1 o1 sp1 rfl).2 i hi) h4).mono fun e w' ⟨he,hw⟩=>⟨by rw [he,bytesOf_nums];rfl,by subst hw;exact Bel.refl _ _⟩
end Gv
namespace Gv
variable [Glob] [Laid]
theorem each_ca:callable Tryz.prog 34=true:=by kernel_rfl
def each_S:Spec:=fun args K=>∃ (k:Int) (s:Bs) (n:Int),args=[.agg [.int .i64 k,.str s,.int .i64 n]]∧K (.bool (each ⟨k,s,n⟩))
noncomputable def each_lib:List (Nat × Spec):=[]
noncomputable def each_fns:List (Nat × FnI):=[]
noncomputable def each_prims:List (Nat × PSpec):=[]
theorem each_E:EnvOK ⟨Tryz.prog,tys,each_lib,each_fns,each_prims,[]⟩:=env_ok mixed0 tys0 .nil .nil .nil rfl
theorem each_ok:Pure Tryz.prog 34 each_S:=by
 refine pure_by each_E 6 (fi:={fn:=Tryz.f34,hooks:=[],draws:=[]}) ⟨Tryz.func34,by kernel_rfl,by kernel_rfl⟩ ?_
 rintro _ K ⟨k,s,n,rfl,hK⟩
 replace hK:∀ r,r=.bool (each ⟨k,s,n⟩)→K r:=fun r h=>h ▸ hK
 repeat' first|(refine fun (b:Bool) hb=>?_;cases b<;>first|exact absurd hb (by decide)|exact nfl hb|exact nfr hb|skip)|fail
 all_goals (refine hK _ ?_;simp only [each];congr 1;grind)
end Gv
namespace Gv
variable [Glob] [Laid]
def pipeShut (p:PipeS):PipeS × Int:=if pipeCheck p≠0 then (noPipe,pipeCheck p) else (⟨[],p.room,p.closed,true⟩,0)
theorem shut_ca:callable Tryz.prog 299=true:=by kernel_rfl
def shut_S:Spec:=fun args K=>∃ p,args=[pipeV p]∧K (.tup [pipeV (pipeShut p).1,.int .i64 (pipeShut p).2])
noncomputable def shut_lib:List (Nat × Spec):=[(196,check_S),(126,cloneB_S),(296,concatB_S)]
noncomputable def shut_fns:List (Nat × FnI):=[(295,{fn:=Tryz.f295,hooks:=[],draws:=[(5,[0,0,2,6,14,0,32,96,224,480,1022,2047,4095]),(7,[0,0,2,6,14,0,0,96,254,510,1023,2047,4095])]})]
noncomputable def shut_prims:List (Nat × PSpec):=[]
theorem shut_E:EnvOK ⟨Tryz.prog,tys,shut_lib,shut_fns,shut_prims,[]⟩:=env_ok mixed0 tys0 (.cons check_ca check_ok (.cons cloneB_ca cloneB_ok (.cons concatB_ca concatB_ok .nil))) (.cons (by kernel_rfl) ⟨Tryz.func295,by kernel_rfl,by kernel_rfl⟩ .nil) .nil rfl
theorem shut_ok:Pure Tryz.prog 299 shut_S:=by
 refine pure_by shut_E 6 (fi:={fn:=Tryz.f299,hooks:=[],draws:=[]}) ⟨Tryz.func299,by kernel_rfl,by kernel_rfl⟩ ?_
 rintro _ K ⟨p,rfl,hK⟩
 replace hK:∀ r,r=.tup [pipeV (pipeShut p).1,.int .i64 (pipeShut p).2]→K r:=fun r h=>h ▸ hK
 refine ⟨p,rfl,?_⟩
 repeat' first|(refine fun (b:Bool) hb=>?_;cases b<;>first|exact absurd hb (by decide)|exact nfl hb|exact nfr hb|skip)|refine ⟨UInt8,byteV,?_⟩|fail
 all_goals (refine hK _ ?_;grind [pipeShut,noPipe,pipeV])
end Gv
