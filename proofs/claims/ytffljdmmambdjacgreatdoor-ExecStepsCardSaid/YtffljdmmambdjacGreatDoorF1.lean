/- What functions of the program come to, part 1: in every world; the conditions stand in each theorem. -/
import Derived.Test.YtffljdmmambdjacGreatDoorVa
import Derived.Test.YtffljdmmambdjacGreatDoorVb
import Derived.Test.YtffljdmmambdjacGreatDoorVc
import Derived.Test.YtffljdmmambdjacGreatDoorVd
import Derived.Test.YtffljdmmambdjacGreatDoorVe
import Derived.Test.YtffljdmmambdjacGreatDoorVf
import Derived.Test.YtffljdmmambdjacGreatDoorProg
import Derived.Test.YtffljdmmambdjacGreatDoorSh
set_option linter.unusedVariables false
set_option linter.unusedSectionVars false
set_option linter.unusedSimpArgs false
set_option maxHeartbeats 16000000
open Go Go.Proofs Gw Gp
namespace Gv
theorem bsp {c:Bool} {P:Bool→Prop} (h1:c=false→P false) (h2:c=true→P true) (b:Bool) (h:c=b):P b:=by cases b;exact h1 h;exact h2 h
theorem nfl {P:Prop} (h:true=false):P:=by cases h
theorem nfr {P:Prop} (h:false=true):P:=by cases h
end Gv
namespace Gv
variable [Glob]
noncomputable def tys:List (Nat × TI) := [(2, ⟨(.int .i64 0), 1, 8, false, (.int .i64)⟩),
  (3,⟨(.int .i64 0),1,8,false,(.int .i64)⟩),
  (4,⟨(.bool false),1,1,false,.bool⟩),
  (5,⟨(.int .u8 0),1,1,false,(.int .u8)⟩),
  (9,⟨(.string ⟨#[]⟩),1,16,false,.str⟩),
  (20,⟨.nilIface,1,16,false,.iface⟩),
  (22,⟨(.slice none 0 0),1,24,false,(.slice 41)⟩),
  (24,⟨(.agg #[(.slice none 0 0)]),1,24,true,(.struct [(22,0)])⟩),
  (25,⟨(.slice none 0 0),1,24,false,(.slice 56)⟩),
  (26,⟨(.slice none 0 0),1,24,false,(.slice 50)⟩),
  (27,⟨(.slice none 0 0),1,24,false,(.slice 44)⟩),
  (28,⟨(.slice none 0 0),1,24,false,(.slice 5)⟩),
  (30,⟨(.agg #[(.slice none 0 0),(.slice none 0 0),(.slice none 0 0),(.slice none 0 0),(.slice none 0 0)]),5,120,true,(.struct [(24,0),(25,1),(26,2),(27,3),(28,4)])⟩),
  (31,⟨(.int .i64 0),1,8,false,(.int .i64)⟩),
  (38,⟨(.agg #[(.int .i64 0),(.string ⟨#[]⟩),(.int .i64 0)]),3,32,true,(.struct [(3,0),(9,1),(3,2)])⟩),
  (39,⟨(.slice none 0 0),1,24,false,(.slice 47)⟩),
  (41,⟨(.agg #[(.int .i64 0),(.string ⟨#[]⟩),(.int .i64 0),(.string ⟨#[]⟩),(.int .i64 0),(.int .i64 0),(.int .i64 0),(.slice none 0 0)]),8,96,true,(.struct [(3,0),(9,1),(38,2),(3,5),(3,6),(39,7)])⟩),
  (42,⟨(.slice none 0 0),1,24,false,(.slice 28)⟩),
  (44,⟨(.agg #[(.slice none 0 0),(.int .i64 0),(.slice none 0 0),(.bool false),(.bool false)]),5,64,true,(.struct [(42,0),(3,1),(42,2),(4,3),(4,4)])⟩),
  (45,⟨.nilFunc,1,8,false,.other⟩),
  (47,⟨(.agg #[(.int .i64 0),(.int .i64 0)]),2,16,true,(.struct [(3,0),(3,1)])⟩),
  (48,⟨.nilFunc,1,8,false,.other⟩),
  (50,⟨(.agg #[(.slice none 0 0),(.int .i64 0),(.bool false),(.bool false)]),4,40,true,(.struct [(28,0),(3,1),(4,2),(4,3)])⟩),
  (51,⟨.nilFunc,1,8,false,.other⟩),
  (53,⟨(.slice none 0 0),1,24,false,(.slice 3)⟩),
  (56,⟨(.agg #[(.string ⟨#[]⟩),(.slice none 0 0)]),2,40,true,(.struct [(9,0),(28,1)])⟩),
  (57,⟨(.slice none 0 0),1,24,false,(.slice 31)⟩),
  (65,⟨(.slice none 0 0),1,24,false,(.slice 9)⟩),
  (66,⟨(.slice none 0 0),1,24,false,(.slice 38)⟩),
  (68,⟨(.agg #[(.slice none 0 0),(.slice none 0 0),(.string ⟨#[]⟩)]),3,64,true,(.struct [(65,0),(66,1),(9,2)])⟩),
  (74,⟨(.slice none 0 0),1,24,false,(.slice 68)⟩),
  (95,⟨(.pointer none),1,8,false,.other⟩),
  (105,⟨.nilFunc,1,8,false,.other⟩),
  (110,⟨(.slice none 0 0),1,24,false,(.slice 42)⟩),
  (114,⟨(.pointer none),1,8,false,.other⟩),
  (116,⟨(.agg #[(.slice none 0 0),(.slice none 0 0)]),2,48,true,(.struct [(24,0),(39,1)])⟩),
  (124,⟨.nilFunc,1,8,false,.other⟩),
  (130,⟨.nilFunc,1,8,false,.other⟩),
  (139,⟨.nilFunc,1,8,false,.other⟩),
  (142,⟨(.map none),1,8,false,(.map 47 4)⟩),
  (145,⟨(.map none),1,8,false,(.map 47 3)⟩),
  (148,⟨(.pointer none),1,8,false,.other⟩),
  (149,⟨(.pointer none),1,8,false,.other⟩),
  (150,⟨.nilFunc,1,8,false,.other⟩),
  (153,⟨(.pointer none),1,8,false,.other⟩),
  (158,⟨.nilFunc,1,8,false,.other⟩),
  (167,⟨(.slice none 0 0),1,24,false,(.slice 65)⟩),
  (172,⟨.nilFunc,1,8,false,.other⟩),
  (174,⟨.nilFunc,1,8,false,.other⟩),
  (186,⟨(.int .u64 0),1,8,false,(.int .u64)⟩),
  (199,⟨(.map none),1,8,false,(.map 3 9)⟩),
  (237,⟨.nilIface,1,16,false,.iface⟩),
  (267,⟨(.pointer none),1,8,false,.other⟩),
  (272,⟨(.int .i64 0),1,8,false,(.int .i64)⟩),
  (295,⟨(.int .u64 0),1,8,false,(.int .u64)⟩)]
theorem mixed0:(Tryz.prog).follows .mixedOrders=true:=by kernel_rfl
theorem tys0:TysOK Tryz.prog tys:=quu_ (by kernel_rfl)
class Laid:Prop where
 maxlen:∀ w,Sub Glob.mem w→∃ n,w.cell? ⟨0,0,none⟩=some (.int .i64 n)
class Nums:Prop where
 pow10 : ∀ w, Sub Glob.mem w → Lib.TabIs Tryz.prog w "internal/strconv.uint64pow10" .u64 Lib.pow10Tab
class Errs:Prop where
 syn : ∀ w, Sub Glob.mem w → ∃ tp p, w.var? Tryz.prog "strconv.ErrSyntax" = some #[.iface tp p]
 rng : ∀ w, Sub Glob.mem w → ∃ tp p, w.var? Tryz.prog "strconv.ErrRange" = some #[.iface tp p]
end Gv
namespace Gv
variable [Glob] [Laid]
theorem qe6_ {N:List Gp.Node} {p:Port} {j k:Nat} (hj:j<N.length) (hp:p ∉ allIns (N.take j)) (hk:k<N[j].ins.length) (hq:p ∉ N[j].ins.take k) (he:p=N[j].ins[k]):readerI N p=insB N j+k∧insB N j+k<(allIns N).length:=by
 have h1:allIns N=allIns (N.take j)++(N[j].ins.take k++(p::(N[j].ins.drop (k+1)++allIns (N.drop (j+1))))):=by
  conv=>lhs;rw [←List.take_append_drop j N,qp_,List.drop_eq_getElem_cons hj]
  rw [show allIns (N[j]::N.drop (j+1))=N[j].ins++allIns (N.drop (j+1)) from rfl]
  conv=>lhs;rw [←List.take_append_drop k N[j].ins,List.drop_eq_getElem_cons hk,←he]
  simp
 have h2:(N[j].ins.take k).length=k:=by rw [List.length_take];omega
 refine ⟨?_,?_⟩
 ·unfold readerI insB
  rw [h1,List.idxOf_append,if_neg hp,List.idxOf_append,if_neg hq,List.idxOf_cons_self,h2]
  omega
 ·rw [h1]
  simp only [List.length_append,List.length_cons,h2]
  unfold insB
  omega
theorem qf5_ {N:List Gp.Node} {p:Port} (h:p ∉ allIns N):¬ readerI N p<(allIns N).length:=fun e=>h (List.idxOf_lt_length_iff.1 e)
theorem qcx_:callable Tryz.prog 122=true:=by kernel_rfl
def readerX_S:Spec:=fun args K=>∃ (N:List Gp.Node) (p:Port),args=[.agg [.sl nodeV N],portV p]∧(allIns N).length≤1000000000∧K (.int .i64 (if readerI N p<(allIns N).length then (readerI N p:Int) else -1))
noncomputable def readerX_lib:List (Nat × Spec):=[]
noncomputable def readerX_fns:List (Nat × FnI):=[]
noncomputable def readerX_prims:List (Nat × PSpec):=[]
theorem qlv_:EnvOK ⟨Tryz.prog,tys,readerX_lib,readerX_fns,readerX_prims,[(47,[true,true])]⟩:=qf_ mixed0 tys0 .nil .nil .nil (by kernel_rfl)
theorem qb5_:Pure Tryz.prog 122 readerX_S:=by
 refine qe_ qlv_ 6 (fi:={fn:=Tryz.f122,hooks:=[],draws:=[]}) ⟨Tryz.func122,by kernel_rfl,by kernel_rfl⟩ ?_
 rintro _ K ⟨N,p,rfl,hn,hK⟩
 replace hK:∀ r,r=.int .i64 (if readerI N p<(allIns N).length then (readerI N p:Int) else -1)→K r:=fun r h=>h ▸ hK
 repeat' first|(refine fun (hl:_≤MAXL)=>?_)|fail
 conv=>whnf
 refine qb_ [3,11,12] (σ:=Nat) (fun j=>[(13,.int .i64 j),(5,.int .i64 (insB N j:Nat))]) (fun _=>[.box [.sl nodeV N],.box [.int .i64 p.node,.int .i64 p.out]]) (fun j=>j≤N.length∧p ∉ allIns (N.take j)) (fun j=>N.length-j) 0 ?_
 conv=>whnf
 refine ⟨(by (refine qc_ [some 0,some 1] rfl rfl ?_ ?_<;>(repeat' first|exact True.intro|exact rfl|exact .inl rfl|exact .inr rfl|refine And.intro ?_ ?_|fail))),⟨Nat.zero_le _,by simp [allIns]⟩,fun j hj=>?_⟩
 obtain ⟨hj,hp⟩:=hj
 repeat' first|(refine fun (b:Bool) hb=>?_;cases b<;>first|exact absurd hb (by decide)|exact nfl hb|exact nfr hb|skip)|(refine fun (hl:_≤MAXL)=>?_)|refine ⟨_,rfl,?_,rfl,?_⟩|fail
 ·have hjl:j=N.length := by
   have h:=of_decide_eq_false (by assumption:decide ((j:Int)<(N.length:Int))=false)
   omega
  subst hjl
  rw [List.take_length] at hp
  conv=>whnf
  exact hK _ (by rw [if_neg (qf5_ hp)])
 ·have h:=of_decide_eq_true (by assumption:decide ((j:Int)<(N.length:Int))=true)
  omega
 have hj2:j<N.length:=by
  have h:=of_decide_eq_true (by assumption:decide ((j:Int)<(N.length:Int))=true)
  omega
 have hnj:insB N (j+1)=insB N j+N[j].ins.length:=by
  unfold insB
  rw [List.take_succ_eq_append_getElem hj2,qp_,List.length_append]
  simp [allIns]
 have hall:insB N (j+1)≤(allIns N).length:=by
  unfold insB
  conv=>rhs;rw [←List.take_append_drop (j+1) N,qp_,List.length_append]
  omega
 conv=>whnf
 refine qb_ [3,11,12,13,18,19] (σ:=Nat) (fun k=>[(20,.int .i64 k),(5,.int .i64 ((insB N j+k:Nat):Int))]) (fun _=>[.box [.sl nodeV N],.box [.int .i64 p.node,.int .i64 p.out]]) (fun k=>k≤N[j].ins.length∧p ∉ N[j].ins.take k) (fun k=>N[j].ins.length-k) 0 ?_
 conv=>whnf
 refine ⟨(by (refine qc_ [some 0,some 1] rfl rfl ?_ ?_<;>(repeat' first|exact True.intro|exact rfl|exact .inl rfl|exact .inr rfl|refine And.intro ?_ ?_|fail))),⟨Nat.zero_le _,by simp⟩,fun k hk=>?_⟩
 obtain ⟨hk,hq⟩:=hk
 repeat' first|(refine fun (b:Bool) hb=>?_;cases b<;>first|exact absurd hb (by decide)|exact nfl hb|exact nfr hb|skip)|refine And.intro (a:=I64 _) ?_ ?_|refine ⟨_,rfl,?_,rfl,?_⟩|fail
 ·have hM:N.length≤MAXL:=by assumption
  unfold I64;unfold MAXL at hM;omega
 ·have hkl:k=N[j].ins.length := by
   have h:=of_decide_eq_false (by assumption:decide ((k:Int)<(N[j].ins.length:Int))=false)
   omega
  subst hkl
  rw [List.take_length] at hq
  refine ⟨j+1,?_,⟨by omega,?_⟩,by omega⟩
  ·show Wk _ _ _ ([(13,.int .i64 ((j+1:Nat):Int)),(5,.int .i64 ((insB N (j+1):Nat):Int))]++_) _
   rw [hnj]
   exact (by (refine qc_ [some 0,some 1] rfl rfl ?_ ?_<;>(repeat' first|exact True.intro|exact rfl|exact .inl rfl|exact .inr rfl|refine And.intro ?_ ?_|fail)))
  ·rw [List.take_succ_eq_append_getElem hj2,qp_]
   intro h
   rcases List.mem_append.1 h with h|h
   ·exact hp h
   ·exact hq (by simpa [allIns] using h)
 ·have h:=of_decide_eq_true (by assumption:decide ((k:Int)<(N[j].ins.length:Int))=true)
  omega
 all_goals
  have hk2:k<N[j].ins.length:=by
   have h:=of_decide_eq_true (by assumption:decide ((k:Int)<(N[j].ins.length:Int))=true)
   omega
 ·unfold I64;omega
 ·unfold I64;omega
 ·refine ⟨k+1,(by (refine qc_ [some 0,some 1] rfl rfl ?_ ?_<;>(repeat' first|exact True.intro|exact rfl|exact .inl rfl|exact .inr rfl|refine And.intro ?_ ?_|fail))),⟨by omega,?_⟩,by omega⟩
  rw [List.take_succ_eq_append_getElem hk2]
  intro h
  rcases List.mem_append.1 h with h|h
  ·exact hq h
  ·have e:p=N[j].ins[k]:=by simpa using h
   have e1:p.node=N[j].ins[k].node:=by rw [←e]
   have e2:p.out=N[j].ins[k].out:=by rw [←e]
   simp_all
 ·have e:p=N[j].ins[k] := by
   have h1:p.node=N[j].ins[k].node∧p.out=N[j].ins[k].out:=by grind
   rcases hx:N[j].ins[k] with ⟨a,b⟩
   rcases p with ⟨c,d⟩
   rw [hx] at h1
   simp only at h1
   rw [h1.1,h1.2]
  obtain ⟨r1,r2⟩:=qe6_ hj2 hp hk2 hq e
  conv=>whnf
  refine hK _ ?_
  rw [r1,if_pos r2]
end Gv
namespace Gv
variable [Glob] [Laid]
def pipeCheck (p:PipeS):Int :=
 if p.room<0∨1000<p.room then 3 else if (0<p.room∧p.room<p.b.length)∨40000<p.b.length then 2 else if p.shut=true∧0<p.b.length then 4 else 0
theorem vh_:callable Tryz.prog 21=true:=by kernel_rfl
def check_S:Spec:=fun args K=>∃ p,args=[pipeV p]∧K (.int .i64 (pipeCheck p))
noncomputable def check_lib:List (Nat × Spec):=[]
noncomputable def check_fns:List (Nat × FnI):=[]
noncomputable def check_prims:List (Nat × PSpec):=[]
theorem qtk_:EnvOK ⟨Tryz.prog,tys,check_lib,check_fns,check_prims,[]⟩:=qf_ mixed0 tys0 .nil .nil .nil rfl
theorem vo_:Pure Tryz.prog 21 check_S:=by
 refine qe_ qtk_ 6 (fi:={fn:=Tryz.f21,hooks:=[],draws:=[]}) ⟨Tryz.func21,by kernel_rfl,by kernel_rfl⟩ ?_
 rintro _ K ⟨p,rfl,hK⟩
 replace hK:∀ r,r=.int .i64 (pipeCheck p)→K r:=fun r h=>h ▸ hK
 repeat' first|(refine fun (b:Bool) hb=>?_;cases b<;>first|exact absurd hb (by decide)|exact nfl hb|exact nfr hb|skip)|(refine fun (hl:_≤MAXL)=>?_)|fail
 all_goals (refine hK _ ?_;simp only [pipeCheck];congr 1;grind)
end Gv
namespace Gv
variable [Glob] [Laid]
theorem zi_:callable Tryz.prog 66=true:=by kernel_rfl
def cloneB_S:Spec:=fun args K=>∃ a:List UInt8,args=[.sl byteV a]∧a.length≤1000000000∧K (.sl byteV a)
noncomputable def cloneB_lib:List (Nat × Spec):=[]
noncomputable def cloneB_fns:List (Nat × FnI):=[]
noncomputable def cloneB_prims:List (Nat × PSpec):=[]
theorem qpn_:EnvOK ⟨Tryz.prog,tys,cloneB_lib,cloneB_fns,cloneB_prims,[]⟩:=qf_ mixed0 tys0 .nil .nil .nil rfl
theorem ze_:Pure Tryz.prog 66 cloneB_S:=by
 refine qe_ qpn_ 6 (fi:={fn:=Tryz.f66,hooks:=[],draws:=[]}) ⟨Tryz.func66,by kernel_rfl,by kernel_rfl⟩ ?_
 rintro _ K ⟨x,rfl,hx,hK⟩
 replace hK:∀ p,p=.sl byteV x→K p:=fun r h=>h ▸ hK
 repeat' first|refine ⟨_,_,_,LeL.refl _,?_⟩|(refine fun (b:Bool) hb=>?_;cases b<;>first|exact absurd hb (by decide)|exact nfl hb|exact nfr hb|skip)|refine And.intro (a:=_≤140737488355328) ?_ ?_|refine ⟨(fun _=>rfl),?_⟩|refine ⟨UInt8,byteV,?_⟩|fail
 ·simp
  omega
 ·exact hK _ rfl
 ·rename_i h
  have e:=h rfl
  subst e
  exact hK _ rfl
end Gv
namespace Gv
variable [Glob] [Laid]
theorem zw_:callable Tryz.prog 214=true:=by kernel_rfl
def concatB_S:Spec:=fun args K=>∃ a:List (List UInt8),args=[.sl blV a]∧a.flatten.length≤1000000000∧K (.sl byteV a.flatten)
noncomputable def concatB_lib:List (Nat × Spec):=[]
noncomputable def concatB_fns:List (Nat × FnI):=[(250,{fn:=Tryz.f250,hooks:=[],draws:=[]})]
noncomputable def concatB_prims:List (Nat × PSpec):=[]
theorem qmr_:EnvOK ⟨Tryz.prog,tys,concatB_lib,concatB_fns,concatB_prims,[]⟩:=qf_ mixed0 tys0 .nil (.cons (by kernel_rfl) ⟨Tryz.func250,by kernel_rfl,by kernel_rfl⟩ .nil) .nil rfl
theorem z0_:Pure Tryz.prog 214 concatB_S:=by
 refine qe_ qmr_ 6 (fi:={fn:=Tryz.f214,hooks:=[10],draws:=[]}) ⟨Tryz.func214,by kernel_rfl,by kernel_rfl⟩ ?_
 rintro _ K ⟨x,rfl,hx,hK⟩
 replace hK:∀ p,p=.sl byteV x.flatten→K p:=fun r h=>h ▸ hK
 obtain ⟨f,hf⟩:∃ f:Nat→List UInt8,∀ i,f i=(x.take i).flatten:=⟨_,fun _=>rfl⟩
 have f0:f 0=[]:=by simp [hf]
 have fS:∀ i (h:i<x.length),f (i+1)=f i++x[i]:=fun i h=>by
  rw [hf,hf,List.take_succ_eq_append_getElem h]
  simp only [List.flatten_append,List.flatten_cons,List.flatten_nil,List.append_nil]
 have fN:∀ i,x.length≤i→f i=x.flatten:=fun i h=>by simp [hf,List.take_of_length_le h]
 have fl:∀ i,(f i).length≤1000000000:=fun i=>by
  rw [←List.take_append_drop i x] at hx
  simp only [List.flatten_append,List.length_append] at hx
  rw [hf];omega
 clear hf
 refine fun (hl:_≤MAXL)=>?_
 conv=>whnf
 refine zj_ (σ:=Nat) (fun i=>[(0,.sl blV x),(2,.nil),(9,.sl blV x),(10,.int .i64 x.length),(11,.int .i64 i),(3,.int .i64 ((f i).length:Nat))]) (fun _=>[]) (fun i=>i≤x.length) (fun i=>x.length-i) 0 (qc_ [] rfl rfl trivial ?_) (Nat.zero_le _) ?_
 ·simp only [f0]
  (repeat' first|exact True.intro|exact rfl|exact .inl rfl|exact .inr rfl|refine And.intro ?_ ?_|fail)
 intro i hi
 have hs:=fl i
 repeat' first|(refine fun (b:Bool) hb=>?_;cases b<;>first|exact absurd hb (by decide)|exact nfl hb|exact nfr hb|skip)|(refine fun (hl:_≤MAXL)=>?_)|refine And.intro (a:=I64 _) ?_ ?_|refine ⟨_,rfl,?_,rfl,?_⟩|fail
 ·conv=>whnf
  refine we_ (σ:=Unit) (fun _=>[(0,.sl blV x),(2,.nil),(6,.own 0)]) (fun _=>[.row 1 []]) (fun _=>True) ?_ ?_
  ·repeat' first|(refine fun (b:Bool) hb=>?_;cases b<;>first|exact absurd hb (by decide)|exact nfl hb|exact nfr hb|skip)|(refine fun (hl:_≤MAXL)=>?_)|refine And.intro (a:=I64 _) ?_ ?_|refine ⟨rfl,?_⟩|fail
   ·unfold I64;omega
   ·unfold I64;omega
   ·refine ⟨(),qc_ [none] rfl rfl trivial ?_,trivial⟩
    (repeat' first|exact True.intro|exact rfl|exact .inl rfl|exact .inr rfl|refine And.intro ?_ ?_|fail)
   ·refine ⟨(f i).length,by simp,by grind,by simp only [Nat.mul_one];omega,?_⟩
    refine fun _=>?_
    refine ⟨0,rfl,Nat.zero_le _,?_⟩
    refine ⟨(),qc_ [some 1] rfl rfl ⟨rfl,trivial⟩ ?_,trivial⟩
    (repeat' first|exact True.intro|exact rfl|exact .inl rfl|exact .inr rfl|refine And.intro ?_ ?_|fail)
  intro _ _
  refine fun (hl:_≤MAXL)=>?_
  conv=>whnf
  refine zj_ (σ:=Nat) (fun i=>[(0,.sl blV x),(2,.nil),(6,.own 0),(25,.sl blV x),(26,.int .i64 x.length),(27,.int .i64 i)]) (fun i=>[.row 1 ((f i).map byteV)]) (fun i=>i≤x.length) (fun i=>x.length-i) 0 (qc_ [some 0] rfl rfl ⟨?_,trivial⟩ ?_) (Nat.zero_le _) ?_
  ·rw [f0];exact rfl
  ·(repeat' first|exact True.intro|exact rfl|exact .inl rfl|exact .inr rfl|refine And.intro ?_ ?_|fail)
  intro i hi
  have hs:=fl i
  repeat' first|refine ⟨_,_,_,LeL.refl _,?_⟩|(refine fun (b:Bool) hb=>?_;cases b<;>first|exact absurd hb (by decide)|exact nfl hb|exact nfr hb|skip)|refine And.intro (a:=I64 _) ?_ ?_|refine And.intro (a:=_≤140737488355328) ?_ ?_|refine ⟨_,rfl,?_,rfl,?_⟩|refine ⟨(fun _=>rfl),?_⟩|fail
  ·refine hK _ ?_
   rw [fN i (by grind)]
  ·grind
  ·have:=fl (i+1)
   rw [fS i (by grind)] at this
   simp only [List.length_append,List.length_map,blV,elsOf] at this ⊢
   omega
  ·unfold I64;grind
  ·refine ⟨i+1,?_,?_,?_⟩
   ·refine qc_ [some 1] rfl rfl ⟨?_,trivial⟩ ?_
    ·rw [fS i (by grind),List.map_append]
     exact rfl
    ·(repeat' first|exact True.intro|exact rfl|exact .inl rfl|exact .inr rfl|refine And.intro ?_ ?_|fail)
   ·grind
   ·grind
 ·grind
 ·unfold I64;grind
 ·unfold I64;grind
 ·refine ⟨i+1,?_,?_,?_⟩
  ·refine qc_ [] rfl rfl trivial ?_
   rw [fS i (by grind)]
   simp only [List.length_append]
   (repeat' first|exact True.intro|exact rfl|exact .inl rfl|exact .inr rfl|refine And.intro ?_ ?_|fail)
  ·grind
  ·grind
end Gv
namespace Gv
variable [Glob] [Laid]
def noPipe:PipeS:=⟨[],0,false,false⟩
def pipeTake (p:PipeS) (n:Nat):Int:=min (if 0<p.room then min (n:Int) (p.room-p.b.length) else n) (40000-p.b.length)
def pipeWrite (p:PipeS) (b:List UInt8):PipeS × Int × Int :=
 if pipeCheck p≠0 then (noPipe,0,pipeCheck p) else if p.closed=true then (noPipe,0,7) else if p.shut=true then (p,b.length,0) else
  ({p with b:=p.b++b.take (pipeTake p b.length).toNat},pipeTake p b.length,0)
theorem q9_ {p:PipeS} (h:pipeCheck p=0):p.b.length≤40000∧0≤p.room∧p.room≤1000∧(0<p.room→p.b.length≤p.room):=by
 unfold pipeCheck at h
 grind
theorem qq5_:callable Tryz.prog 162=true:=by kernel_rfl
def write_S:Spec:=fun args K=>∃ p b,args=[pipeV p,.sl byteV b]∧b.length≤900000000∧K (.tup [pipeV (pipeWrite p b).1,.int .i64 (pipeWrite p b).2.1,.int .i64 (pipeWrite p b).2.2])
noncomputable def write_lib:List (Nat × Spec):=[(21,check_S),(66,cloneB_S),(214,concatB_S)]
noncomputable def write_fns:List (Nat × FnI):=[(213,{fn:=Tryz.f213,hooks:=[],draws:=[(5,[0,0,2,6,14,0,32,96,224,480,1022,2047,4095]),(7,[0,0,2,6,14,0,0,96,254,510,1023,2047,4095])]})]
noncomputable def write_prims:List (Nat × PSpec):=[]
theorem qsb_:EnvOK ⟨Tryz.prog,tys,write_lib,write_fns,write_prims,[]⟩:=qf_ mixed0 tys0 (.cons vh_ vo_ (.cons zi_ ze_ (.cons zw_ z0_ .nil))) (.cons (by kernel_rfl) ⟨Tryz.func213,by kernel_rfl,by kernel_rfl⟩ .nil) .nil rfl
theorem qox_:Pure Tryz.prog 162 write_S:=by
 refine qe_ qsb_ 6 (fi:={fn:=Tryz.f162,hooks:=[],draws:=[]}) ⟨Tryz.func162,by kernel_rfl,by kernel_rfl⟩ ?_
 rintro _ K ⟨p,b,rfl,hb0,hK⟩
 replace hK:∀ r,r=.tup [pipeV (pipeWrite p b).1,.int .i64 (pipeWrite p b).2.1,.int .i64 (pipeWrite p b).2.2]→K r:=fun r h=>h ▸ hK
 refine ⟨p,rfl,?_⟩
 repeat' first|(refine fun (b:Bool) hb=>?_;cases b<;>first|exact absurd hb (by decide)|exact nfl hb|exact nfr hb|skip)|refine ⟨UInt8,byteV,?_⟩|fail
 ·have hc:pipeCheck p=0:=by grind
  have hs:=q9_ hc
  refine ⟨p.b,rfl,by omega,?_⟩
  have hn0:0≤pipeTake p b.length:=by unfold pipeTake;grind
  have hn1:pipeTake p b.length≤b.length:=by unfold pipeTake;grind
  repeat' first|exact True.intro|(refine fun (b:Bool) hb=>?_;cases b<;>first|exact absurd hb (by decide)|exact nfl hb|exact nfr hb|skip)|(refine fun (hl:_≤MAXL)=>?_)|refine And.intro (a:=I64 _) ?_ ?_|refine ⟨_,⟨rfl,rfl⟩,?_⟩|refine ⟨_,And.intro (a:=I64 _) ?_ ⟨rfl,rfl⟩,?_⟩|refine ⟨_,(fun _=>⟨rfl,rfl⟩),?_⟩|refine And.intro (a:=chkPast _ _ _ _ _ _ _ _) ?_ ?_|fail
  any_goals (unfold I64;omega)
  iterate 2
   rotate_left
   refine ⟨_,⟨fun _=>rfl,(pipeTake p b.length).toNat,?_,?_,rfl,rfl⟩,?_⟩
   ·grind [pipeTake]
   ·omega
   skip
   refine ⟨_,⟨List UInt8,blV,[p.b,b.take (pipeTake p b.length).toNat],LeL.refl _,rfl,rfl⟩,?_⟩
   refine ⟨_,⟨[p.b,b.take (pipeTake p b.length).toNat],rfl,?_,rfl,rfl⟩,?_⟩
   ·simp
    omega
   repeat' first|exact True.intro|refine ⟨_,⟨rfl,rfl⟩,?_⟩|refine ⟨_,_,⟨rfl,rfl⟩,?_⟩|refine And.intro (a:=chkPend _ _ _ _ _ _) ?_ ?_|fail
   ·refine hK _ ?_
    have e:pipeWrite p b=(⟨p.b++b.take (pipeTake p b.length).toNat,p.room,p.closed,p.shut⟩,pipeTake p b.length,0):=by unfold pipeWrite;grind
    rw [e]
    simp only [pipeV,List.flatten_cons,List.flatten_nil,List.append_nil]
    congr 3
    grind [pipeTake]
  ·refine hK _ ?_
   grind [pipeWrite,pipeV]
 all_goals (refine hK _ ?_;grind [pipeWrite,noPipe,pipeV])
end Gv
namespace Gv
variable [Glob] [Laid]
theorem qz_ (p:PipeS):pipeCheck p=checkPipe p:=by
 unfold pipeCheck checkPipe
 have h:(0<p.b.length)↔p.b≠[]:=List.length_pos_iff
 simp only [h]
theorem qjb_ {p:PipeS} {b:Bs} (hb:b≠[]) :
  (((pipeWrite p b).2.2=0∧0<(pipeWrite p b).2.1)↔(checkPipe p=0∧p.closed=false∧0<takeN p b)) ∧
  (checkPipe p=0→p.closed=false→(pipeWrite p b).1=takeP p b∧(pipeWrite p b).2.1=(takeN p b:Int)):=by
 have hbl:0<b.length:=List.length_pos_iff.2 hb
 unfold pipeWrite
 rw [qz_]
 by_cases hc:checkPipe p=0
 ·have hs:=q9_ ((qz_ p).trans hc)
  rw [if_neg (by rw [hc];decide)]
  cases hcl:p.closed with
  | true=>simp
  | false =>
   rw [if_neg (by decide)]
   cases hsh:p.shut with
   | true =>
    rw [if_pos rfl]
    unfold takeN takeP
    rw [hsh,if_pos rfl,if_pos rfl]
    simp [hc,hbl]
   | false =>
    rw [if_neg (by decide)]
    have e:pipeTake p b.length=(takeN p b:Int):=by
     unfold pipeTake takeN
     simp only [hsh,Bool.false_eq_true,if_false]
     by_cases hr:0<p.room
     ·have:=hs.2.2.2 hr
      simp only [hr,if_true]
      omega
     ·simp only [hr,if_false]
      omega
    dsimp only
    rw [e]
    unfold takeP
    rw [hsh,if_neg (by decide),Int.toNat_natCast]
    refine ⟨by constructor<;>(intro h;refine ⟨?_,?_⟩<;>first|exact hc|rfl|omega|(refine ⟨rfl,?_⟩;omega)),fun _ _=>⟨?_,rfl⟩⟩
    rcases p with ⟨pb,room,cl,sh⟩
    dsimp only at hcl hsh
    subst hcl hsh
    rfl
 ·rw [if_pos hc]
  simp [hc]
theorem qex_:callable Tryz.prog 121=true:=by kernel_rfl
def writeF_P:PSpec:=fun args rows K=>∃ (m:MachS) (i:Nat) (els:List V),args=[.ptr 0 0 0,.int .i64 i]∧FocOK m i els∧rows=focR m i els∧(∀ k ex,k<(pr m i).out.length→canW m i k=true→(∀ j,j<k→canW m i j=false)→K (.lit true) (focR (doW m i k) i els++ex))∧((∀ k,k<(pr m i).out.length→canW m i k=false)→∀ ex,K (.lit false) (focR m i els++ex))
noncomputable def writeF_lib:List (Nat × Spec):=[(122,readerX_S),(162,write_S)]
noncomputable def writeF_fns:List (Nat × FnI):=[]
noncomputable def writeF_prims:List (Nat × PSpec):=[]
theorem qrs_:EnvOK ⟨Tryz.prog,tys,writeF_lib,writeF_fns,writeF_prims,[]⟩:=qf_ mixed0 tys0 (.cons qcx_ qb5_ (.cons qq5_ qox_ .nil)) .nil .nil rfl
theorem qgd_:PrimOK Tryz.prog 121 writeF_P:=by
 refine q3_ qrs_ 6 qex_ (fi:={fn:=Tryz.f121,hooks:=[],draws:=[(8,[0,1,3,7,0,0,32,96,224,0,992,2016,4064,0,0,0,0,98304,24575,286719,1048575,2097151])]}) ⟨Tryz.func121,by kernel_rfl,by kernel_rfl⟩ ?_
 rintro args rows K ⟨m,i,els,rfl,h,rfl,hT,hF⟩
 have hei:(els.set i (procF (pr m i)))[i]?=some (procF (pr m i)):=List.getElem?_set_self (by rw [h.nl];exact h.lt)
 have hel:(els.set i (procF (pr m i))).length=m.g.length:=by rw [List.length_set,h.nl]
 have hpe:=h.pe
 unfold focR
 repeat' first|refine ⟨rfl,?_⟩|fail
 refine ⟨i,rfl,by rw [hel];exact h.lt,?_⟩
 conv=>whnf
 refine ⟨_,hei,?_⟩
 repeat' first|(refine fun (hl:_≤MAXL)=>?_)|fail
 conv=>whnf
 refine qb_ [0,1,18,19] (σ:=Nat) (fun k=>[(20,.int .i64 k)]) (fun _=>[.box [.sl nodeV m.g,.sl fileV m.f,.own 1,.own 2,.sl byteV m.sunk],.row 4 (m.pipes.map pipeV),.rowq 5 (els.set i (procF (pr m i))),.row 1 ((pr m i).got.map blV),.row 1 ((pr m i).out.map blV)]) (fun k=>k≤(pr m i).out.length∧∀ j,j<k→canW m i j=false) (fun k=>(pr m i).out.length-k) 0 ?_
 conv=>whnf
 refine ⟨(by (refine qc_ [some 0,some 1,some 2,some 3,some 4] rfl rfl ?_ ?_<;>(repeat' (first|exact qg_ hpe rfl rfl|exact True.intro|exact rfl|exact Or.inl rfl|exact Or.inr rfl|refine And.intro ?_ ?_|fail)))),⟨Nat.zero_le _,fun j hj=>by omega⟩,fun k hk=>?_⟩
 obtain ⟨hk,hno⟩:=hk
 repeat' first|(refine fun (b:Bool) hb=>?_;cases b<;>first|exact absurd hb (by decide)|exact nfl hb|exact nfr hb|skip)|refine ⟨rfl,?_⟩|fail
 ·have hkl:k=(pr m i).out.length := by
   have h:=of_decide_eq_false (by assumption:decide ((k:Int)<(((pr m i).out.map blV).length:Int))=false)
   rw [List.length_map] at h
   omega
  subst hkl
  conv=>whnf
  exact hF hno []
 have hk2:k<(pr m i).out.length:=by
  have h:=of_decide_eq_true (by assumption:decide ((k:Int)<(((pr m i).out.map blV).length:Int))=true)
  rw [List.length_map] at h
  omega
 have hgk:((pr m i).out.map blV)[k]?=some (blV (pr m i).out[k]):=by rw [List.getElem?_map,List.getElem?_eq_getElem hk2];rfl
 have hok:outK m i k=(pr m i).out[k]:=by unfold outK;rw [List.getD_eq_getElem?_getD,List.getElem?_eq_getElem hk2];rfl
 refine ⟨k,rfl,by rw [List.length_map];exact hk2,?_⟩
 conv=>whnf
 refine ⟨_,hgk,?_⟩
 repeat' first|(refine fun (b:Bool) hb=>?_;cases b<;>first|exact absurd hb (by decide)|exact nfl hb|exact nfr hb|skip)|(refine fun (hl:_≤MAXL)=>?_)|refine And.intro (a:=I64 _) ?_ ?_|fail
 rotate_left
 ·have hM:((pr m i).out.map blV).length≤MAXL:=by assumption
  rw [List.length_map] at hM
  unfold I64;unfold MAXL at hM;omega
 ·have he:(pr m i).out[k]=[] := by
   have h:=of_decide_eq_true (by assumption:decide ((((pr m i).out[k]).length:Int)=0)=true)
   exact List.length_eq_zero_iff.1 (by omega)
  refine ⟨k+1,(by (refine qc_ [some 0,some 1,some 2,some 3,some 4] rfl rfl ?_ ?_<;>(repeat' (first|exact qg_ hpe rfl rfl|exact True.intro|exact rfl|exact Or.inl rfl|exact Or.inr rfl|refine And.intro ?_ ?_|fail)))),⟨by omega,fun j hj=>?_⟩,by omega⟩
  rcases Nat.lt_or_ge j k with h2|h2
  ·exact hno j h2
  ·obtain rfl:j=k:=by omega
   unfold canW
   rw [hok,he]
   simp
 have hne:(pr m i).out[k]≠[]:=by
  have h:=of_decide_eq_false (by assumption:decide ((((pr m i).out[k]).length:Int)=0)=false)
  intro e
  rw [e] at h
  exact h rfl
 have hrl:=qh8_ h hk2
 have hrq:rdr m i k<m.pipes.length:=by rw [h.nq];exact hrl
 have hgq:(m.pipes.map pipeV)[rdr m i k]?=some (pipeV (qu m (rdr m i k))):=by
  rw [List.getElem?_map,List.getElem?_eq_getElem hrq]
  unfold qu
  rw [List.getD_eq_getElem?_getD,List.getElem?_eq_getElem hrq]
  rfl
 conv=>whnf
 refine ⟨m.g,⟨i,k⟩,rfl,qq_ h.g,?_⟩
 rw [show readerI m.g ⟨(i:Int),(k:Int)⟩=rdr m i k from rfl,if_pos hrl]
 repeat' first|refine ⟨rfl,?_⟩|fail
 refine ⟨rdr m i k,rfl,by rw [List.length_map];exact hrq,?_⟩
 conv=>whnf
 refine ⟨_,hgq,?_⟩
 skip
 have hb9:((pr m i).out[k]).length≤900000000:=by
  have:=h.big (pr m i).out[k] (List.mem_append_right _ (List.getElem_mem hk2))
  omega
 refine ⟨qu m (rdr m i k),(pr m i).out[k],rfl,hb9,?_⟩
 obtain ⟨w1,w2⟩:=qjb_ (p:=qu m (rdr m i k)) hne
 have hcw:canW m i k=true↔((pipeWrite (qu m (rdr m i k)) (pr m i).out[k]).2.2=0∧0<(pipeWrite (qu m (rdr m i k)) (pr m i).out[k]).2.1):=by
  rw [w1]
  unfold canW
  rw [hok]
  simp only [Bool.and_eq_true,decide_eq_true_eq,Bool.not_eq_true']
  constructor
  ·rintro ⟨⟨⟨-,h1⟩,h2⟩,h3⟩;exact ⟨h1,h2,h3⟩
  ·rintro ⟨h1,h2,h3⟩;exact ⟨⟨⟨hne,h1⟩,h2⟩,h3⟩
 have hgo:∀ {b:Bool},canW m i k=b→b=false→∀ j,j<k+1→canW m i j=false:=fun e e' j hj=>by
  rcases Nat.lt_or_ge j k with h2|h2
  ·exact hno j h2
  ·obtain rfl:j=k:=by omega
   rw [e,e']
 repeat' first|exact True.intro|(refine fun (b:Bool) hb=>?_;cases b<;>first|exact absurd hb (by decide)|exact nfl hb|exact nfr hb|skip)|refine And.intro (a:=I64 _) ?_ ?_|refine ⟨_,⟨rfl,rfl⟩,?_⟩|refine And.intro (a:=chkPast _ _ _ _ _ _ _ _) ?_ ?_|fail
 ·have hM:((pr m i).out.map blV).length≤MAXL:=by assumption
  rw [List.length_map] at hM
  unfold I64;unfold MAXL at hM;omega
 ·have h0:=of_decide_eq_false (by assumption:decide ((pipeWrite (qu m (rdr m i k)) (pr m i).out[k]).2.2=0)=false)
  refine ⟨k+1,(by (refine qc_ [some 0,some 1,some 2,some 3,some 4] rfl rfl ?_ ?_<;>(repeat' (first|exact qg_ hpe rfl rfl|exact True.intro|exact rfl|exact Or.inl rfl|exact Or.inr rfl|refine And.intro ?_ ?_|fail)))),⟨by omega,hgo rfl ?_⟩,by omega⟩
  rw [Bool.eq_false_iff]
  exact fun e=>h0 (hcw.1 e).1
 ·have hM:((pr m i).out.map blV).length≤MAXL:=by assumption
  rw [List.length_map] at hM
  unfold I64;unfold MAXL at hM;omega
 ·have h0:=of_decide_eq_false (by assumption:decide (0<(pipeWrite (qu m (rdr m i k)) (pr m i).out[k]).2.1)=false)
  refine ⟨k+1,(by (refine qc_ [some 0,some 1,some 2,some 3,some 4] rfl rfl ?_ ?_<;>(repeat' (first|exact qg_ hpe rfl rfl|exact True.intro|exact rfl|exact Or.inl rfl|exact Or.inr rfl|refine And.intro ?_ ?_|fail)))),⟨by omega,hgo rfl ?_⟩,by omega⟩
  rw [Bool.eq_false_iff]
  exact fun e=>h0 (hcw.1 e).2
 have hcan:canW m i k=true:=hcw.2 ⟨of_decide_eq_true (by assumption),of_decide_eq_true (by assumption)⟩
 have hw:=w1.1 (hcw.1 hcan)
 obtain ⟨w3,w4⟩:=w2 hw.1 hw.2.1
 conv=>whnf
 apply Exists.intro
 apply And.intro
 ·repeat' first|refine ⟨_,rfl,?_,rfl,?_⟩|refine ⟨rfl,?_⟩|fail
  ·rw [hel];exact h.lt
  ·exact rfl
 conv=>whnf
 refine ⟨trivial,?_⟩
 conv=>whnf
 apply Exists.intro
 apply And.intro
 ·repeat' first|refine ⟨rfl,?_⟩|fail
  exact rfl
 conv=>whnf
 apply Exists.intro
 apply And.intro
 ·conv=>whnf
  refine ⟨_,hei,?_⟩
  repeat' first|refine ⟨rfl,?_⟩|fail
  exact rfl
 conv=>whnf
 refine ⟨trivial,?_⟩
 conv=>whnf
 repeat' first|exact True.intro|refine ⟨_,⟨rfl,rfl⟩,?_⟩|refine And.intro (a:=chkPast _ _ _ _ _ _ _ _) ?_ ?_|fail
 conv=>whnf
 apply Exists.intro
 apply And.intro
 ·refine ⟨fun _=>rfl,takeN (qu m (rdr m i k)) (pr m i).out[k],w4,?_,?_⟩
  ·have:=hw.2.2
   unfold takeN
   split
   ·exact Nat.le_refl _
   ·split<;>omega
  ·exact ⟨rfl,rfl⟩
 conv=>whnf
 apply Exists.intro
 apply And.intro
 ·repeat' first|refine ⟨_,rfl,?_,rfl,?_⟩|refine ⟨rfl,?_⟩|fail
  ·rw [List.length_map];exact hrq
  ·exact rfl
 conv=>whnf
 refine ⟨trivial,?_⟩
 conv=>whnf
 apply Exists.intro
 apply Exists.intro
 apply And.intro
 ·conv=>whnf
  refine ⟨by rw [List.length_map];exact hrq,?_⟩
  exact ⟨rfl,rfl⟩
 conv=>whnf
 repeat' first|exact True.intro|refine And.intro (a:=chkPend _ _ _ _ _ _) ?_ ?_|fail
 conv=>whnf
 apply Exists.intro
 apply And.intro
 ·repeat' first|refine ⟨_,rfl,?_,rfl,?_⟩|refine ⟨rfl,?_⟩|fail
  ·rw [List.length_map];exact hk2
  ·exact rfl
 conv=>whnf
 repeat' first|exact True.intro|refine And.intro (a:=chkPast _ _ _ _ _ _ _ _) ?_ ?_|fail
 conv=>whnf
 apply Exists.intro
 apply Exists.intro
 apply And.intro
 ·conv=>whnf
  refine ⟨by rw [List.length_map];exact hk2,?_⟩
  exact ⟨rfl,rfl⟩
 conv=>whnf
 repeat' first|exact True.intro|refine And.intro (a:=chkPend _ _ _ _ _ _) ?_ ?_|fail
 conv=>whnf
 have hpi:pr (doW m i k) i=setOut (pr m i) k ((outK m i k).drop (takeN (qu m (rdr m i k)) (outK m i k))):=by
  unfold doW
  rw [z9_ (by show i<m.p.length;rw [h.np];exact h.lt),if_pos rfl]
 have e:focR (doW m i k) i els=[.box [.sl nodeV m.g,.sl fileV m.f,.own 1,.own 2,.sl byteV m.sunk],.row 4 ((m.pipes.map pipeV).set (rdr m i k) (pipeV (pipeWrite (qu m (rdr m i k)) (pr m i).out[k]).1)),.rowq 5 (els.set i (procF (pr m i))),.row 1 ((pr m i).got.map blV),.row 1 (((pr m i).out.map blV).set k (blV ((pr m i).out[k].drop (takeN (qu m (rdr m i k)) (pr m i).out[k]))))]:=by
  unfold focR
  rw [hpi,w3,←hok,←List.map_set,←List.map_set]
  rfl
 have hfin:=hT k [.box (pipeV (pipeWrite (qu m (rdr m i k)) (pr m i).out[k]).1).cells] hk2 hcan hno
 rw [e] at hfin
 exact hfin
end Gv
namespace Gv
variable [Glob] [Laid]
theorem qfy_:callable Tryz.prog 65=true:=by kernel_rfl
def outs_S:Spec:=fun args K=>∃ n:Gp.Node,args=[nodeV n]∧K (.int .i64 (outsN n))
noncomputable def outs_lib:List (Nat × Spec):=[]
noncomputable def outs_fns:List (Nat × FnI):=[]
noncomputable def outs_prims:List (Nat × PSpec):=[]
theorem qvc_:EnvOK ⟨Tryz.prog,tys,outs_lib,outs_fns,outs_prims,[]⟩:=qf_ mixed0 tys0 .nil .nil .nil rfl
theorem qg7_:Pure Tryz.prog 65 outs_S:=by
 refine qe_ qvc_ 6 (fi:={fn:=Tryz.f65,hooks:=[],draws:=[]}) ⟨Tryz.func65,by kernel_rfl,by kernel_rfl⟩ ?_
 rintro _ K ⟨n,rfl,hK⟩
 replace hK:∀ r,r=.int .i64 (outsN n)→K r:=fun r h=>h ▸ hK
 unfold outsN at hK
 repeat' first|(refine fun (b:Bool) hb=>?_;cases b<;>first|exact absurd hb (by decide)|exact nfl hb|exact nfr hb|skip)|fail
 ·have h2:¬ n.kind=2:=of_decide_eq_false (by assumption)
  have h5:¬ n.kind=5:=of_decide_eq_false (by assumption)
  rw [if_neg h2,if_neg h5] at hK
  exact hK _ rfl
 ·have h2:¬ n.kind=2:=of_decide_eq_false (by assumption)
  have h5:n.kind=5:=of_decide_eq_true (by assumption)
  rw [if_neg h2,if_pos h5] at hK
  exact hK _ rfl
 ·have h2:n.kind=2:=of_decide_eq_true (by assumption)
  rw [if_pos h2] at hK
  exact hK _ rfl
end Gv
namespace Gv
variable [Glob] [Laid]
def lbV (l:List Bs):V:=.sl blV l
theorem qg5_:callable Tryz.prog 156=true:=by kernel_rfl
def concatBL_S:Spec:=fun args K=>∃ a:List (List Bs),args=[.sl lbV a]∧a.flatten.length≤1000000000∧K (.sl blV a.flatten)
noncomputable def concatBL_lib:List (Nat × Spec):=[]
noncomputable def concatBL_fns:List (Nat × FnI):=[(209,{fn:=Tryz.f209,hooks:=[],draws:=[]})]
noncomputable def concatBL_prims:List (Nat × PSpec):=[]
theorem qjr_:EnvOK ⟨Tryz.prog,tys,concatBL_lib,concatBL_fns,concatBL_prims,[]⟩:=qf_ mixed0 tys0 .nil (.cons (by kernel_rfl) ⟨Tryz.func209,by kernel_rfl,by kernel_rfl⟩ .nil) .nil rfl
theorem qga_:Pure Tryz.prog 156 concatBL_S:=by
 refine qe_ qjr_ 6 (fi:={fn:=Tryz.f156,hooks:=[10],draws:=[]}) ⟨Tryz.func156,by kernel_rfl,by kernel_rfl⟩ ?_
 rintro _ K ⟨x,rfl,hx,hK⟩
 replace hK:∀ p,p=.sl blV x.flatten→K p:=fun r h=>h ▸ hK
 obtain ⟨f,hf⟩:∃ f:Nat→List Bs,∀ i,f i=(x.take i).flatten:=⟨_,fun _=>rfl⟩
 have f0:f 0=[]:=by simp [hf]
 have fS:∀ i (h:i<x.length),f (i+1)=f i++x[i]:=fun i h=>by
  rw [hf,hf,List.take_succ_eq_append_getElem h]
  simp only [List.flatten_append,List.flatten_cons,List.flatten_nil,List.append_nil]
 have fN:∀ i,x.length≤i→f i=x.flatten:=fun i h=>by simp [hf,List.take_of_length_le h]
 have fl:∀ i,(f i).length≤1000000000:=fun i=>by
  rw [←List.take_append_drop i x] at hx
  simp only [List.flatten_append,List.length_append] at hx
  rw [hf];omega
 clear hf
 refine fun (hl:_≤MAXL)=>?_
 conv=>whnf
 refine zj_ (σ:=Nat) (fun i=>[(0,.sl lbV x),(2,.nil),(9,.sl lbV x),(10,.int .i64 x.length),(11,.int .i64 i),(3,.int .i64 ((f i).length:Nat))]) (fun _=>[]) (fun i=>i≤x.length) (fun i=>x.length-i) 0 (qc_ [] rfl rfl trivial ?_) (Nat.zero_le _) ?_
 ·simp only [f0]
  (repeat' first|exact True.intro|exact rfl|exact .inl rfl|exact .inr rfl|refine And.intro ?_ ?_|fail)
 intro i hi
 have hs:=fl i
 repeat' first|(refine fun (b:Bool) hb=>?_;cases b<;>first|exact absurd hb (by decide)|exact nfl hb|exact nfr hb|skip)|(refine fun (hl:_≤MAXL)=>?_)|refine And.intro (a:=I64 _) ?_ ?_|refine ⟨_,rfl,?_,rfl,?_⟩|fail
 ·conv=>whnf
  refine we_ (σ:=Unit) (fun _=>[(0,.sl lbV x),(2,.nil),(6,.own 0)]) (fun _=>[.row 1 []]) (fun _=>True) ?_ ?_
  ·repeat' first|(refine fun (b:Bool) hb=>?_;cases b<;>first|exact absurd hb (by decide)|exact nfl hb|exact nfr hb|skip)|(refine fun (hl:_≤MAXL)=>?_)|refine And.intro (a:=I64 _) ?_ ?_|refine ⟨rfl,?_⟩|fail
   ·unfold I64;omega
   ·unfold I64;omega
   ·refine ⟨(),qc_ [none] rfl rfl trivial ?_,trivial⟩
    (repeat' first|exact True.intro|exact rfl|exact .inl rfl|exact .inr rfl|refine And.intro ?_ ?_|fail)
   ·refine ⟨(f i).length,by simp,by grind,by simp only [Nat.mul_one];omega,?_⟩
    refine fun _=>?_
    refine ⟨0,rfl,Nat.zero_le _,?_⟩
    refine ⟨(),qc_ [some 1] rfl rfl ⟨rfl,trivial⟩ ?_,trivial⟩
    (repeat' first|exact True.intro|exact rfl|exact .inl rfl|exact .inr rfl|refine And.intro ?_ ?_|fail)
  intro _ _
  refine fun (hl:_≤MAXL)=>?_
  conv=>whnf
  refine zj_ (σ:=Nat) (fun i=>[(0,.sl lbV x),(2,.nil),(6,.own 0),(25,.sl lbV x),(26,.int .i64 x.length),(27,.int .i64 i)]) (fun i=>[.row 1 ((f i).map blV)]) (fun i=>i≤x.length) (fun i=>x.length-i) 0 (qc_ [some 0] rfl rfl ⟨?_,trivial⟩ ?_) (Nat.zero_le _) ?_
  ·rw [f0];exact rfl
  ·(repeat' first|exact True.intro|exact rfl|exact .inl rfl|exact .inr rfl|refine And.intro ?_ ?_|fail)
  intro i hi
  have hs:=fl i
  repeat' first|refine ⟨_,_,_,LeL.refl _,?_⟩|(refine fun (b:Bool) hb=>?_;cases b<;>first|exact absurd hb (by decide)|exact nfl hb|exact nfr hb|skip)|refine And.intro (a:=I64 _) ?_ ?_|refine And.intro (a:=_≤140737488355328) ?_ ?_|refine ⟨_,rfl,?_,rfl,?_⟩|refine ⟨(fun _=>rfl),?_⟩|fail
  ·refine hK _ ?_
   rw [fN i (by grind)]
  ·grind
  ·have:=fl (i+1)
   rw [fS i (by grind)] at this
   simp only [List.length_append,List.length_map,lbV,elsOf] at this ⊢
   omega
  ·unfold I64;grind
  ·refine ⟨i+1,?_,?_,?_⟩
   ·refine qc_ [some 1] rfl rfl ⟨?_,trivial⟩ ?_
    ·rw [fS i (by grind),List.map_append]
     exact rfl
    ·(repeat' first|exact True.intro|exact rfl|exact .inl rfl|exact .inr rfl|refine And.intro ?_ ?_|fail)
   ·grind
   ·grind
 ·grind
 ·unfold I64;grind
 ·unfold I64;grind
 ·refine ⟨i+1,?_,?_,?_⟩
  ·refine qc_ [] rfl rfl trivial ?_
   rw [fS i (by grind)]
   simp only [List.length_append]
   (repeat' first|exact True.intro|exact rfl|exact .inl rfl|exact .inr rfl|refine And.intro ?_ ?_|fail)
  ·grind
  ·grind
end Gv
namespace Gv
variable [Glob] [Laid]
theorem qji_:callable Tryz.prog 96=true:=by kernel_rfl
def checkPX_S:Spec:=fun args K=>∃ (n:Gp.Node) (p:ProcS),args=[nodeV n,procV p]∧checkN n=0∧K (.int .i64 (checkProc n p))
noncomputable def checkPX_lib:List (Nat × Spec):=[(65,outs_S),(156,concatBL_S)]
noncomputable def checkPX_fns:List (Nat × FnI):=[]
noncomputable def checkPX_prims:List (Nat × PSpec):=[]
theorem qm1_:EnvOK ⟨Tryz.prog,tys,checkPX_lib,checkPX_fns,checkPX_prims,[]⟩:=qf_ mixed0 tys0 (.cons qfy_ qg7_ (.cons qg5_ qga_ .nil)) .nil .nil rfl
theorem qj2_:Pure Tryz.prog 96 checkPX_S:=by
 refine qe_ qm1_ 6 (fi:={fn:=Tryz.f96,hooks:=[3,5,7],draws:=[(1,[0,1,3,0,8,24,63,127,255,511,1023,255,2303,8191,16383])]}) ⟨Tryz.func96,by kernel_rfl,by kernel_rfl⟩ ?_
 rintro _ K ⟨n,p,rfl,hc,hK⟩
 replace hK:∀ r,r=.int .i64 (checkProc n p)→K r:=fun r h=>h ▸ hK
 have c4:(p.got.length≠n.ins.length∨(p.out.length:Int)≠outsN n)→V.int .i64 4=V.int .i64 (checkProc n p):=fun h=>by unfold checkProc;rw [if_pos h]
 have hi:=z7_ hc
 have ho:=qy_ hc
 conv=>whnf
 refine qd_ [2,3] (σ:=Unit) (fun _=>[(2,.ptr 0 0 0),(3,.ptr 1 0 0)]) (fun _=>[.box (nodeV n).cells,.box (procV p).cells]) (fun _=>¬ (p.got.length≠n.ins.length∨(p.out.length:Int)≠outsN n)) ?_
 conv=>whnf
 refine ⟨?_,fun _ h1=>?_⟩
 ·conv=>whnf
  repeat' first|exact True.intro|(refine fun (b:Bool) hb=>?_;cases b<;>first|exact absurd hb (by decide)|exact nfl hb|exact nfr hb|skip)|refine ⟨_,⟨rfl,rfl⟩,?_⟩|refine ⟨_,(fun _=>⟨rfl,rfl⟩),?_⟩|refine And.intro (a:=chkPast _ _ _ _ _ _ _ _) ?_ ?_|fail
  ·conv=>whnf
   apply Exists.intro
   apply And.intro
   ·refine ⟨n,rfl,?_⟩
    exact ⟨rfl,rfl⟩
   conv=>whnf
   repeat' first|(refine fun (b:Bool) hb=>?_;cases b<;>first|exact absurd hb (by decide)|exact nfl hb|exact nfr hb|skip)|refine ⟨_,⟨rfl,rfl⟩,?_⟩|fail
   all_goals (try (conv=>whnf))
   all_goals (skip)
   all_goals first
    | exact hK _ (c4 (by grind))
    | exact ⟨(),(by (refine qa_ ?_;refine Sel4.mk rfl rfl ?_ ?_<;>(repeat' first|exact True.intro|exact rfl|exact .inl rfl|exact .inr rfl|refine And.intro ?_ ?_|fail))),by grind⟩
  all_goals (try (conv=>whnf))
  all_goals (skip)
  all_goals (try (conv=>whnf))
  all_goals (skip)
  all_goals (try (conv=>whnf))
  all_goals (skip)
  all_goals first
   | exact hK _ (c4 (by grind))
   | exact ⟨(),(by (refine qa_ ?_;refine Sel4.mk rfl rfl ?_ ?_<;>(repeat' first|exact True.intro|exact rfl|exact .inl rfl|exact .inr rfl|refine And.intro ?_ ?_|fail))),by grind⟩
 have c3:(p.pos<0∨(n.ins.length:Int)<p.pos∨(p.read=false∧p.over=true))→V.int .i64 3=V.int .i64 (checkProc n p):=fun h=>by unfold checkProc;rw [if_neg h1,if_pos h]
 conv=>whnf
 refine qd_ [2,3] (σ:=Unit) (fun _=>[]) (fun _=>[.box (nodeV n).cells,.box (procV p).cells]) (fun _=>¬ (p.pos<0∨(n.ins.length:Int)<p.pos∨(p.read=false∧p.over=true))) ?_
 conv=>whnf
 refine ⟨?_,fun _ h2=>?_⟩
 ·conv=>whnf
  repeat' first|(refine fun (b:Bool) hb=>?_;cases b<;>first|exact absurd hb (by decide)|exact nfl hb|exact nfr hb|skip)|(refine fun (hl:_≤MAXL)=>?_)|fail
  all_goals (try (conv=>whnf))
  all_goals (skip)
  all_goals (try (conv=>whnf))
  all_goals (skip)
  all_goals (try (conv=>whnf))
  all_goals (skip)
  all_goals first
   | exact hK _ (c3 (by grind))
   | exact ⟨(),(by (refine qa_ ?_;refine Sel4.mk rfl rfl ?_ ?_<;>(repeat' first|exact True.intro|exact rfl|exact .inl rfl|exact .inr rfl|refine And.intro ?_ ?_|fail))),by grind⟩
 have c3b:(p.read=false∧p.pos=(n.ins.length:Int)∧0<n.ins.length)→V.int .i64 3=V.int .i64 (checkProc n p):=fun h=>by unfold checkProc;rw [if_neg h1,if_neg h2,if_pos h]
 conv=>whnf
 refine qd_ [3] (σ:=Unit) (fun _=>[]) (fun _=>[.box (nodeV n).cells,.box (procV p).cells]) (fun _=>¬ (p.read=false∧p.pos=(n.ins.length:Int)∧0<n.ins.length)) ?_
 conv=>whnf
 refine ⟨?_,fun _ h3=>?_⟩
 ·conv=>whnf
  repeat' first|(refine fun (b:Bool) hb=>?_;cases b<;>first|exact absurd hb (by decide)|exact nfl hb|exact nfr hb|skip)|(refine fun (hl:_≤MAXL)=>?_)|fail
  all_goals (try (conv=>whnf))
  all_goals (skip)
  all_goals (try (conv=>whnf))
  all_goals (skip)
  all_goals (try (conv=>whnf))
  all_goals (skip)
  all_goals first
   | exact hK _ (c3b (by grind))
   | exact ⟨(),(by (refine qa_ ?_;refine Sel4.mk rfl rfl ?_ ?_<;>(repeat' first|exact True.intro|exact rfl|exact .inl rfl|exact .inr rfl|refine And.intro ?_ ?_|fail))),by grind⟩
 conv=>whnf
 refine ⟨List Bs,lbV,[p.got,p.out],LeL.refl _,?_⟩
 skip
 refine ⟨[p.got,p.out],rfl,?_,?_⟩
 ·simp;omega
 have hfl:[p.got,p.out].flatten=p.got++p.out:=by simp
 generalize [p.got,p.out].flatten=L at hfl
 repeat' first|(refine fun (hl:_≤MAXL)=>?_)|fail
 conv=>whnf
 refine qb_ [64,65] (σ:=Nat) (fun k=>[(66,.int .i64 k)]) (fun _=>[.box (nodeV n).cells,.box (procV p).cells]) (fun k=>k≤L.length∧∀ b∈L.take k,b.length≤40000) (fun k=>L.length-k) 0 ?_
 conv=>whnf
 refine ⟨(by (refine qa_ ?_;refine Sel4.mk rfl rfl ?_ ?_<;>(repeat' first|exact True.intro|exact rfl|exact .inl rfl|exact .inr rfl|refine And.intro ?_ ?_|fail))),⟨Nat.zero_le _,by simp⟩,fun k hk=>?_⟩
 obtain ⟨hk,hno⟩:=hk
 repeat' first|(refine fun (b:Bool) hb=>?_;cases b<;>first|exact absurd hb (by decide)|exact nfl hb|exact nfr hb|skip)|(refine fun (hl:_≤MAXL)=>?_)|refine And.intro (a:=I64 _) ?_ ?_|refine ⟨_,rfl,?_,rfl,?_⟩|fail
 ·have hkl:k=L.length := by
   have h:=of_decide_eq_false (by assumption:decide ((k:Int)<(L.length:Int))=false)
   omega
  subst hkl
  rw [List.take_length] at hno
  conv=>whnf
  refine hK _ ?_
  unfold checkProc
  rw [if_neg h1,if_neg h2,if_neg h3,←hfl,if_neg]
  rw [List.any_eq_true]
  rintro ⟨b,hb,hd⟩
  have:=of_decide_eq_true hd
  have:=hno b hb
  omega
 ·have h:=of_decide_eq_true (by assumption:decide ((k:Int)<(L.length:Int))=true)
  omega
 all_goals
  have hk2:k<L.length:=by
   have h:=of_decide_eq_true (by assumption:decide ((k:Int)<(L.length:Int))=true)
   omega
 ·have hM:L.length≤MAXL:=by assumption
  unfold I64;unfold MAXL at hM;omega
 ·refine ⟨k+1,(by (refine qa_ ?_;refine Sel4.mk rfl rfl ?_ ?_<;>(repeat' first|exact True.intro|exact rfl|exact .inl rfl|exact .inr rfl|refine And.intro ?_ ?_|fail))),⟨hk2,fun b hb=>?_⟩,by omega⟩
  rw [List.take_succ_eq_append_getElem hk2] at hb
  rcases List.mem_append.1 hb with hb|hb
  ·exact hno b hb
  ·rw [List.mem_singleton.1 hb]
   have h:=of_decide_eq_false (by assumption:decide (40000<(L[k].length:Int))=false)
   omega
 ·conv=>whnf
  refine hK _ ?_
  unfold checkProc
  rw [if_neg h1,if_neg h2,if_neg h3,←hfl,if_pos]
  rw [List.any_eq_true]
  refine ⟨L[k],List.getElem_mem hk2,decide_eq_true ?_⟩
  have h:=of_decide_eq_true (by assumption:decide (40000<(L[k].length:Int))=true)
  omega
end Gv
namespace Gv
variable [Glob] [Laid]
theorem qqm_:callable Tryz.prog 135=true:=by kernel_rfl
def word1_S:Spec:=fun args K=>∃ (c:UInt8),args=[byteV c]∧K (.bool (!wordByte c))
noncomputable def word1_lib:List (Nat × Spec):=[]
noncomputable def word1_fns:List (Nat × FnI):=[]
noncomputable def word1_prims:List (Nat × PSpec):=[]
theorem quc_:EnvOK ⟨Tryz.prog,tys,word1_lib,word1_fns,word1_prims,[]⟩:=qf_ mixed0 tys0 .nil .nil .nil rfl
theorem qpb_:Pure Tryz.prog 135 word1_S:=by
 refine qe_ quc_ 6 (fi:={fn:=Tryz.f135,hooks:=[],draws:=[]}) ⟨Tryz.func135,by kernel_rfl,by kernel_rfl⟩ ?_
 rintro _ K ⟨c,rfl,hK⟩
 replace hK:∀ r,r=.bool (!wordByte c)→K r:=fun r h=>h ▸ hK
 repeat' first|(refine fun (b:Bool) hb=>?_;cases b<;>first|exact absurd hb (by decide)|exact nfl hb|exact nfr hb|skip)|fail
 all_goals (refine hK _ ?_;unfold wordByte;congr 1;grind)
end Gv
namespace Gv
variable [Glob] [Laid]
theorem qg4_:callable Tryz.prog 78=true:=by kernel_rfl
def word_S:Spec:=fun args K=>∃ (s:Bs),args=[.str s]∧K (.bool (isWord s))
noncomputable def word_lib:List (Nat × Spec):=[(135,word1_S)]
noncomputable def word_fns:List (Nat × FnI):=[(134,{fn:=Tryz.f134,hooks:=[],draws:=[]}),(170,{fn:=Tryz.f170,hooks:=[],draws:=[]})]
noncomputable def word_prims:List (Nat × PSpec):=[]
theorem qu3_:EnvOK ⟨Tryz.prog,tys,word_lib,word_fns,word_prims,[]⟩:=qf_ mixed0 tys0 (.cons qqm_ qpb_ .nil) (.cons (by kernel_rfl) ⟨Tryz.func134,by kernel_rfl,by kernel_rfl⟩ (.cons (by kernel_rfl) ⟨Tryz.func170,by kernel_rfl,by kernel_rfl⟩ .nil)) .nil rfl
theorem qhm_:Pure Tryz.prog 78 word_S:=by
 refine qe_ qu3_ 6 (fi:={fn:=Tryz.f78,hooks:=[],draws:=[]}) ⟨Tryz.func78,by kernel_rfl,by kernel_rfl⟩ ?_
 rintro _ K ⟨s,rfl,hK⟩
 replace hK:∀ r,r=.bool (isWord s)→K r:=fun r h=>h ▸ hK
 repeat' first|(refine fun (b:Bool) hb=>?_;cases b<;>first|exact absurd hb (by decide)|exact nfl hb|exact nfr hb|skip)|(refine fun (hl:_≤MAXL)=>?_)|refine And.intro (a:=_≤140737488355328) ?_ ?_|refine Opt.a ?_|fail
 ·refine hK _ ?_
  have h:(!decide (s=[]))=false:=by assumption
  have:s=[]:=by simpa using h
  subst this;rfl
 ·refine hK _ ?_
  have h:decide ((s.length:Int)≤12)=false:=by assumption
  have h2:¬ s.length≤12:=by
   intro h3
   have:((s.length:Int)≤12):=by omega
   simp [this] at h
  simp [isWord,h2]
 ·have h:decide ((s.length:Int)≤12)=true:=by assumption
  have h2:(s.length:Int)≤12:=by simpa using h
  omega
 have hw:∃ t:Bool,isWord s=t∧t=s.all wordByte:=by
  have h:(!decide (s=[]))=true:=by assumption
  have h1:s≠[]:=by simpa using h
  have h:decide ((s.length:Int)≤12)=true:=by assumption
  have h2:(s.length:Int)≤12:=by simpa using h
  have h3:s.length≤12:=by omega
  exact ⟨s.all wordByte,by simp [isWord,h1,h3],rfl⟩
 obtain ⟨t,ht,hta⟩:=hw
 rw [ht] at hK
 conv=>whnf
 refine qb_ [0,1,7] (σ:=Nat) (fun i=>[(8,.int .i64 i)]) (fun _=>[]) (fun i=>i≤s.length∧(s.take i).all wordByte=true) (fun i=>s.length-i) 0 ?_
 conv=>whnf
 refine ⟨(by (refine qc_ [] rfl rfl ?_ ?_<;>(repeat' first|exact True.intro|exact rfl|exact .inl rfl|exact .inr rfl|refine And.intro ?_ ?_|fail))),⟨Nat.zero_le _,rfl⟩,fun i hi=>?_⟩
 obtain ⟨hi,hI⟩:=hi
 repeat' first|(refine fun (b:Bool) hb=>?_;cases b<;>first|exact absurd hb (by decide)|exact nfl hb|exact nfr hb|skip)|refine ⟨_,rfl,?_,rfl,?_⟩|fail
 ·have e:s.take i=s:=List.take_of_length_le (by grind)
  rw [e] at hI
  refine hK _ ?_
  rw [hta,hI]
  rfl
 ·grind
 have hi2:i<s.length:=by grind
 refine ⟨s[i],rfl,?_⟩
 have hts:s.take (i+1)=s.take i++[s[i]]:=List.take_succ_eq_append_getElem hi2
 repeat' first|(refine fun (b:Bool) hb=>?_;cases b<;>first|exact absurd hb (by decide)|exact nfl hb|exact nfr hb|skip)|refine And.intro (a:=I64 _) ?_ ?_|fail
 ·(first|omega|(unfold I64;omega)|(simp only [List.length_append,List.length_map,List.length_cons,List.length_nil,Nat.mul_one,Int.ofNat_eq_natCast] at *;omega)|(dsimp only at *;omega)|(unfold I64;dsimp only at *;omega)|(unfold I64;grind)|grind)
 ·refine ⟨i+1,(by (refine qc_ [] rfl rfl ?_ ?_<;>(repeat' first|exact True.intro|exact rfl|exact .inl rfl|exact .inr rfl|refine And.intro ?_ ?_|fail))),⟨by omega,?_⟩,by omega⟩
  rw [hts,List.all_append,hI]
  grind
 ·refine hK _ ?_
  have h1:wordByte s[i]=false:=by grind
  have h2:s.all wordByte=false:=by
   rw [List.all_eq_false]
   exact ⟨s[i],List.getElem_mem hi2,by simp [h1]⟩
  rw [hta,h2]
  simp
end Gv
namespace Gv
variable [Glob] [Laid]
theorem qef_:callable Tryz.prog 132=true:=by kernel_rfl
def ccheck_S:Spec:=fun args K=>∃ (k:Int) (s:Bs) (n:Int),args=[.agg [.int .i64 k,.str s,.int .i64 n]]∧K (.int .i64 (checkCmd ⟨k,s,n⟩))
noncomputable def ccheck_lib:List (Nat × Spec):=[(78,word_S)]
noncomputable def ccheck_fns:List (Nat × FnI):=[]
noncomputable def ccheck_prims:List (Nat × PSpec):=[]
theorem qqh_:EnvOK ⟨Tryz.prog,tys,ccheck_lib,ccheck_fns,ccheck_prims,[]⟩:=qf_ mixed0 tys0 (.cons qg4_ qhm_ .nil) .nil .nil rfl
theorem qew_:Pure Tryz.prog 132 ccheck_S:=by
 refine qe_ qqh_ 6 (fi:={fn:=Tryz.f132,hooks:=[4,5,7,9],draws:=[]}) ⟨Tryz.func132,by kernel_rfl,by kernel_rfl⟩ ?_
 rintro _ K ⟨k,s,n,rfl,hK⟩
 replace hK:∀ r,r=.int .i64 (checkCmd ⟨k,s,n⟩)→K r:=fun r h=>h ▸ hK
 obtain ⟨uw,huw⟩:∃ b,useWord ⟨k,s,n⟩=b:=⟨_,rfl⟩
 obtain ⟨un,hun⟩:∃ b,useN ⟨k,s,n⟩=b:=⟨_,rfl⟩
 have hc:checkCmd ⟨k,s,n⟩=if k<1∨10<k then 4 else if (uw=false∧s≠[])∨(un=false∧n≠0) then 4 else if un=true∧(n<1∨1000<n) then 3 else if (uw=true∧isWord s=false)∨(k=3∧s.length≠2) then 1 else 0:=by
  unfold checkCmd
  rw [huw,hun]
 rw [hc] at hK
 clear hc
 simp only [useWord] at huw
 simp only [useN] at hun
 repeat' first|(refine fun (b:Bool) hb=>?_;cases b<;>first|exact absurd hb (by decide)|exact nfl hb|exact nfr hb|skip)|fail
 rotate_left
 ·exact hK _ (by rw [if_pos (by grind)])
 ·exact hK _ (by rw [if_pos (by grind)])
 have h1:¬ (k<1∨10<k):=by grind
 simp only [h1,if_false] at hK
 conv=>whnf
 refine qd_ [1] (σ:=Bool) (fun b=>[(3,.bool b)]) (fun _=>[.box [.int .i64 k,.str s,.int .i64 n]]) (fun b=>b=uw) ?_
 conv=>whnf
 refine ⟨?_,fun b hbu=>?_⟩
 ·repeat' first|(refine fun (b:Bool) hb=>?_;cases b<;>first|exact absurd hb (by decide)|exact nfl hb|exact nfr hb|skip)|fail
  all_goals (refine ⟨_,by refine qc_ [some 0] rfl rfl ?_ ?_<;>(repeat' first|exact True.intro|exact rfl|exact .inl rfl|exact .inr rfl|refine And.intro ?_ ?_|fail),?_⟩;rw [←huw];simp_all)
 obtain rfl:uw=b:=hbu.symm
 clear huw
 conv=>whnf
 refine qd_ [1,3] (σ:=Bool) (fun b=>[(4,.bool b)]) (fun _=>[.box [.int .i64 k,.str s,.int .i64 n]]) (fun b=>b=un) ?_
 conv=>whnf
 refine ⟨?_,fun b hbu=>?_⟩
 ·repeat' first|(refine fun (b:Bool) hb=>?_;cases b<;>first|exact absurd hb (by decide)|exact nfl hb|exact nfr hb|skip)|fail
  all_goals (refine ⟨_,by refine qc_ [some 0] rfl rfl ?_ ?_<;>(repeat' first|exact True.intro|exact rfl|exact .inl rfl|exact .inr rfl|refine And.intro ?_ ?_|fail),?_⟩;rw [←hun];simp_all)
 obtain rfl:un=b:=hbu.symm
 clear hun
 conv=>whnf
 refine qd_ [1,3,4] (σ:=Unit) (fun b=>[]) (fun _=>[.box [.int .i64 k,.str s,.int .i64 n]]) (fun b=>¬ ((uw=false∧s≠[])∨(un=false∧n≠0))) ?_
 conv=>whnf
 refine ⟨?_,fun _ h2=>?_⟩
 ·repeat' first|(refine fun (b:Bool) hb=>?_;cases b<;>first|exact absurd hb (by decide)|exact nfl hb|exact nfr hb|skip)|fail
  all_goals (conv=>whnf)
  all_goals first
   | (refine ⟨(),(by (refine qc_ [some 0] rfl rfl ?_ ?_<;>(repeat' first|exact True.intro|exact rfl|exact .inl rfl|exact .inr rfl|refine And.intro ?_ ?_|fail))),?_⟩;simp_all;done)
   | (refine hK _ ?_;rw [if_pos];simp_all;done)
 simp only [h2,if_false] at hK
 conv=>whnf
 refine qd_ [1,3] (σ:=Unit) (fun b=>[]) (fun _=>[.box [.int .i64 k,.str s,.int .i64 n]]) (fun b=>¬ (un=true∧(n<1∨1000<n))) ?_
 conv=>whnf
 refine ⟨?_,fun _ h3=>?_⟩
 ·repeat' first|(refine fun (b:Bool) hb=>?_;cases b<;>first|exact absurd hb (by decide)|exact nfl hb|exact nfr hb|skip)|fail
  all_goals (conv=>whnf)
  all_goals first
   | (refine ⟨(),(by (refine qc_ [some 0] rfl rfl ?_ ?_<;>(repeat' first|exact True.intro|exact rfl|exact .inl rfl|exact .inr rfl|refine And.intro ?_ ?_|fail))),?_⟩;simp_all;done)
   | (refine hK _ ?_;rw [if_pos];simp_all;done)
 simp only [h3,if_false] at hK
 repeat' first|(refine fun (b:Bool) hb=>?_;cases b<;>first|exact absurd hb (by decide)|exact nfl hb|exact nfr hb|skip)|(refine fun (hl:_≤MAXL)=>?_)|fail
 all_goals (conv=>whnf)
 any_goals first
     | (refine hK _ ?_;rw [if_pos];simp_all;done)
     | (refine hK _ ?_;rw [if_neg];simp_all;done)
 refine ⟨s,rfl,?_⟩
 repeat' first|(refine fun (b:Bool) hb=>?_;cases b<;>first|exact absurd hb (by decide)|exact nfl hb|exact nfr hb|skip)|(refine fun (hl:_≤MAXL)=>?_)|fail
 all_goals (conv=>whnf)
 any_goals first
     | (refine hK _ ?_;rw [if_pos];simp_all;done)
     | (refine hK _ ?_;rw [if_neg];simp_all;done)
 ·refine hK _ ?_
  rw [if_neg]
  grind
 ·refine hK _ ?_
  rw [if_pos]
  grind
end Gv
namespace Gv
variable [Glob] [Laid]
theorem qof_:callable Tryz.prog 166=true:=by kernel_rfl
def checkJ_S:Spec:=fun args K=>∃ (h:Int) (c:Cmd),args=[.int .i64 h,cmdV c]∧K (.int .i64 (checkJoin h c))
noncomputable def checkJ_lib:List (Nat × Spec):=[(132,ccheck_S)]
noncomputable def checkJ_fns:List (Nat × FnI):=[]
noncomputable def checkJ_prims:List (Nat × PSpec):=[]
theorem qp1_:EnvOK ⟨Tryz.prog,tys,checkJ_lib,checkJ_fns,checkJ_prims,[(38,[true,false,true])]⟩:=qf_ mixed0 tys0 (.cons qef_ qew_ .nil) .nil .nil (by kernel_rfl)
theorem qnn_:Pure Tryz.prog 166 checkJ_S:=by
 refine qe_ qp1_ 6 (fi:={fn:=Tryz.f166,hooks:=[],draws:=[]}) ⟨Tryz.func166,by kernel_rfl,by kernel_rfl⟩ ?_
 rintro _ K ⟨h,c,rfl,hK⟩
 replace hK:∀ r,r=.int .i64 (checkJoin h c)→K r:=fun r h=>h ▸ hK
 obtain ⟨ck,cw,cn⟩:=c
 obtain ⟨q,hq⟩:∃ q,checkCmd ⟨ck,cw,cn⟩=q:=⟨_,rfl⟩
 unfold checkJoin at hK
 rw [hq] at hK
 repeat' first|(refine fun (b:Bool) hb=>?_;cases b<;>first|exact absurd hb (by decide)|exact nfl hb|exact nfr hb|skip)|fail
 ·have h1:¬ h<1:=of_decide_eq_false (by assumption)
  have h2:¬ 4<h:=of_decide_eq_false (by assumption)
  have h3:h=4:=by
   have h3:(!decide (h=4))=false:=by assumption
   simpa using h3
  refine ⟨ck,cw,cn,rfl,?_⟩
  rw [hq]
  skip
  refine hK _ ?_
  rw [if_neg (by omega),if_neg (by omega)]
 ·have h1:¬ h<1:=of_decide_eq_false (by assumption)
  have h2:¬ 4<h:=of_decide_eq_false (by assumption)
  have h3:¬ h=4:=by
   have h3:(!decide (h=4))=true:=by assumption
   simpa using h3
  have hz:(⟨ck,cw,cn⟩:Cmd)=zCmd:=by
   unfold zCmd
   grind
  conv=>whnf
  refine hK _ ?_
  rw [if_neg (by omega),if_pos h3,if_neg (fun e=>e hz)]
 ·have h1:¬ h<1:=of_decide_eq_false (by assumption)
  have h2:¬ 4<h:=of_decide_eq_false (by assumption)
  have h3:¬ h=4:=by
   have h3:(!decide (h=4))=true:=by assumption
   simpa using h3
  have hz:(⟨ck,cw,cn⟩:Cmd)≠zCmd:=by
   unfold zCmd
   grind
  conv=>whnf
  refine hK _ ?_
  rw [if_neg (by omega),if_pos h3,if_pos hz]
 ·have h2:4<h:=of_decide_eq_true (by assumption)
  conv=>whnf
  refine hK _ ?_
  rw [if_pos (by omega)]
 ·have h2:h<1:=of_decide_eq_true (by assumption)
  conv=>whnf
  refine hK _ ?_
  rw [if_pos (by omega)]
end Gv
namespace Gv
variable [Glob] [Laid]
theorem qtp_ {a b:Cmd} (h1:a.kind=b.kind) (h2:a.word=b.word) (h3:a.n=b.n):a=b:=by
 cases a;cases b;simp_all
theorem qpu_ {a b:Gp.Node} (h1:a.kind=b.kind) (h2:a.file=b.file) (h3:a.c=b.c) (h4:a.how=b.how) (h5:a.wide=b.wide) (h6:a.ins=b.ins):a=b:=by
 cases a;cases b;simp_all
theorem qnu_:callable Tryz.prog 125=true:=by kernel_rfl
def checkN_S:Spec:=fun args K=>∃ n:Gp.Node,args=[nodeV n]∧K (.int .i64 (checkN n))
noncomputable def checkN_lib:List (Nat × Spec):=[(78,word_S),(132,ccheck_S),(166,checkJ_S)]
noncomputable def checkN_fns:List (Nat × FnI):=[]
noncomputable def checkN_prims:List (Nat × PSpec):=[]
theorem qp4_:EnvOK ⟨Tryz.prog,tys,checkN_lib,checkN_fns,checkN_prims,[(38,[true,false,true])]⟩:=qf_ mixed0 tys0 (.cons qg4_ qhm_ (.cons qef_ qew_ (.cons qof_ qnn_ .nil))) .nil .nil (by kernel_rfl)
theorem qll_:Pure Tryz.prog 125 checkN_S:=by
 refine qe_ qp4_ 6 (fi:={fn:=Tryz.f125,hooks:=[23],draws:=[(20,[0,1,0,4,3,19,63,127])]}) ⟨Tryz.func125,by kernel_rfl,by kernel_rfl⟩ ?_
 rintro _ K ⟨n,rfl,hK⟩
 replace hK:∀ r,r=.int .i64 (checkN n)→K r:=fun r h=>h ▸ hK
 repeat' first|(refine fun (hl:_≤MAXL)=>?_)|fail
 conv=>whnf
 refine qd_ [1,3] (σ:=Unit) (fun _=>[(4,.int .i64 (errN n)),(5,.bool (insN n))]) (fun _=>[.box (nodeV n).cells,.box (nodeV (wantN n)).cells]) (fun _=>1≤n.kind∧n.kind≤5) ?_
 conv=>whnf
 refine ⟨?_,fun _ hk=>?_⟩
 ·repeat' first|exact True.intro|(refine fun (b:Bool) hb=>?_;cases b<;>first|exact absurd hb (by decide)|exact nfl hb|exact nfr hb|skip)|refine ⟨_,⟨rfl,rfl⟩,?_⟩|refine ⟨_,_,⟨rfl,rfl⟩,?_⟩|refine And.intro (a:=chkPend _ _ _ _ _ _) ?_ ?_|refine And.intro (a:=chkPast _ _ _ _ _ _ _ _) ?_ ?_|refine ⟨⟨rfl,rfl⟩,?_⟩|fail
  all_goals first|exact absurd ((by assumption:decide (n.kind=1)=true).symm.trans (by assumption:decide (n.kind=1)=false)) (by decide)|skip
  ·have h1:¬ n.kind=1:=of_decide_eq_false (by assumption)
   have h5:¬ n.kind=5:=of_decide_eq_false (by assumption)
   have h2:¬ n.kind=2:=of_decide_eq_false (by assumption)
   have h3:¬ n.kind=3:=of_decide_eq_false (by assumption)
   have h4:¬ n.kind=4:=of_decide_eq_false (by assumption)
   conv=>whnf
   refine hK _ ?_
   unfold checkN
   rw [if_pos (by omega)]
  ·have h4:n.kind=4:=of_decide_eq_true (by assumption)
   have e1:errN n=checkJoin n.how n.c:=by unfold errN;rw [if_neg (by omega),if_neg (by omega),if_neg (by omega)]
   have e2:insN n=(decide ((1:Int)≤(n.ins.length:Int)) && decide ((n.ins.length:Int)≤5)):=by unfold insN;rw [if_neg (by omega),if_pos h4]
   have e3:wantN n=⟨n.kind,[],n.c,n.how,0,n.ins⟩:=by unfold wantN;simp [h4]
   conv=>whnf
   refine ⟨n.how,n.c,rfl,?_⟩
   repeat' first|(refine fun (b:Bool) hb=>?_;cases b<;>first|exact absurd hb (by decide)|exact nfl hb|exact nfr hb|skip)|(refine fun (hl:_≤MAXL)=>?_)|fail
   all_goals (conv=>whnf)
   ·refine ⟨(),?_,by omega⟩
    rw [e1,e2,e3,(by assumption:decide ((1:Int)≤(n.ins.length:Int))=false),Bool.false_and]
    exact (by (refine qa_ ?_;refine Sel4.mk rfl rfl ?_ ?_<;>(repeat' first|exact True.intro|exact rfl|exact .inl rfl|exact .inr rfl|refine And.intro ?_ ?_|fail)))
   ·refine ⟨(),?_,by omega⟩
    rw [e1,e2,e3,(by assumption:decide ((1:Int)≤(n.ins.length:Int))=true),Bool.true_and]
    exact (by (refine qa_ ?_;refine Sel4.mk rfl rfl ?_ ?_<;>(repeat' first|exact True.intro|exact rfl|exact .inl rfl|exact .inr rfl|refine And.intro ?_ ?_|fail)))
  ·have h3:n.kind=3:=of_decide_eq_true (by assumption)
   have e1:errN n=checkCmd n.c:=by unfold errN;rw [if_neg (by omega),if_neg (by omega),if_pos h3]
   have e2:insN n=decide ((n.ins.length:Int)=1):=by unfold insN;rw [if_neg (by omega),if_neg (by omega)]
   have e3:wantN n=⟨n.kind,[],n.c,0,0,n.ins⟩:=by unfold wantN;simp [h3]
   conv=>whnf
   refine ⟨n.c.kind,n.c.word,n.c.n,rfl,?_⟩
   conv=>whnf
   refine ⟨(),?_,by omega⟩
   rw [e1,e2,e3]
   exact (by (refine qa_ ?_;refine Sel4.mk rfl rfl ?_ ?_<;>(repeat' first|exact True.intro|exact rfl|exact .inl rfl|exact .inr rfl|refine And.intro ?_ ?_|fail)))
  ·have h2:n.kind=2:=of_decide_eq_true (by assumption)
   have e1:errN n=0:=by unfold errN;rw [if_neg (by omega),if_pos h2,if_neg (by have:=of_decide_eq_false (by assumption:decide (n.wide<1)=false);have:=of_decide_eq_false (by assumption:decide (5<n.wide)=false);omega)]
   have e2:insN n=decide ((n.ins.length:Int)=1):=by unfold insN;rw [if_neg (by omega),if_neg (by omega)]
   have e3:wantN n=⟨n.kind,[],zCmd,0,n.wide,n.ins⟩:=by unfold wantN;simp [h2]
   conv=>whnf
   refine ⟨(),?_,by omega⟩
   rw [e1,e2,e3]
   exact (by (refine qa_ ?_;refine Sel4.mk rfl rfl ?_ ?_<;>(repeat' first|exact True.intro|exact rfl|exact .inl rfl|exact .inr rfl|refine And.intro ?_ ?_|fail)))
  ·have h2:n.kind=2:=of_decide_eq_true (by assumption)
   have e1:errN n=3:=by unfold errN;rw [if_neg (by omega),if_pos h2,if_pos (.inr (of_decide_eq_true (by assumption:decide (5<n.wide)=true)))]
   have e2:insN n=decide ((n.ins.length:Int)=1):=by unfold insN;rw [if_neg (by omega),if_neg (by omega)]
   have e3:wantN n=⟨n.kind,[],zCmd,0,n.wide,n.ins⟩:=by unfold wantN;simp [h2]
   conv=>whnf
   refine ⟨(),?_,by omega⟩
   rw [e1,e2,e3]
   exact (by (refine qa_ ?_;refine Sel4.mk rfl rfl ?_ ?_<;>(repeat' first|exact True.intro|exact rfl|exact .inl rfl|exact .inr rfl|refine And.intro ?_ ?_|fail)))
  ·have h2:n.kind=2:=of_decide_eq_true (by assumption)
   have e1:errN n=3:=by unfold errN;rw [if_neg (by omega),if_pos h2,if_pos (.inl (of_decide_eq_true (by assumption:decide (n.wide<1)=true)))]
   have e2:insN n=decide ((n.ins.length:Int)=1):=by unfold insN;rw [if_neg (by omega),if_neg (by omega)]
   have e3:wantN n=⟨n.kind,[],zCmd,0,n.wide,n.ins⟩:=by unfold wantN;simp [h2]
   conv=>whnf
   refine ⟨(),?_,by omega⟩
   rw [e1,e2,e3]
   exact (by (refine qa_ ?_;refine Sel4.mk rfl rfl ?_ ?_<;>(repeat' first|exact True.intro|exact rfl|exact .inl rfl|exact .inr rfl|refine And.intro ?_ ?_|fail)))
  ·have h5:n.kind=5:=of_decide_eq_true (by assumption)
   have e1:errN n=if isWord n.file=true then 0 else 1:=by unfold errN;rw [if_pos (.inr h5)]
   have e2:insN n=((decide ((n.ins.length:Int)=1) == decide (n.kind=5)) && decide ((n.ins.length:Int)<2)):=by unfold insN;rw [if_pos (.inr h5)]
   have e3:wantN n=⟨n.kind,n.file,zCmd,0,0,n.ins⟩:=by unfold wantN;simp [h5]
   conv=>whnf
   refine ⟨n.file,rfl,?_⟩
   repeat' first|(refine fun (b:Bool) hb=>?_;cases b<;>first|exact absurd hb (by decide)|exact nfl hb|exact nfr hb|skip)|(refine fun (hl:_≤MAXL)=>?_)|fail
   all_goals (conv=>whnf)
   all_goals refine ⟨(),?_,by omega⟩
   all_goals rw [e1,e2,e3]
   all_goals first|rw [(by assumption:(decide ((n.ins.length:Int)=1) == decide (n.kind=5))=false),Bool.false_and]|rw [(by assumption:(decide ((n.ins.length:Int)=1) == decide (n.kind=5))=true),Bool.true_and]
   all_goals first|rw [if_neg (by simpa using (by assumption:(!isWord n.file)=true))]|rw [if_pos (by simpa using (by assumption:(!isWord n.file)=false))]
   all_goals exact (by (refine qa_ ?_;refine Sel4.mk rfl rfl ?_ ?_<;>(repeat' first|exact True.intro|exact rfl|exact .inl rfl|exact .inr rfl|refine And.intro ?_ ?_|fail)))
  ·have h5:n.kind=1:=of_decide_eq_true (by assumption)
   have e1:errN n=if isWord n.file=true then 0 else 1:=by unfold errN;rw [if_pos (.inl h5)]
   have e2:insN n=((decide ((n.ins.length:Int)=1) == decide (n.kind=5)) && decide ((n.ins.length:Int)<2)):=by unfold insN;rw [if_pos (.inl h5)]
   have e3:wantN n=⟨n.kind,n.file,zCmd,0,0,n.ins⟩:=by unfold wantN;simp [h5]
   conv=>whnf
   refine ⟨n.file,rfl,?_⟩
   repeat' first|(refine fun (b:Bool) hb=>?_;cases b<;>first|exact absurd hb (by decide)|exact nfl hb|exact nfr hb|skip)|(refine fun (hl:_≤MAXL)=>?_)|fail
   all_goals (conv=>whnf)
   all_goals refine ⟨(),?_,by omega⟩
   all_goals rw [e1,e2,e3]
   all_goals first|rw [(by assumption:(decide ((n.ins.length:Int)=1) == decide (n.kind=5))=false),Bool.false_and]|rw [(by assumption:(decide ((n.ins.length:Int)=1) == decide (n.kind=5))=true),Bool.true_and]
   all_goals first|rw [if_neg (by simpa using (by assumption:(!isWord n.file)=true))]|rw [if_pos (by simpa using (by assumption:(!isWord n.file)=false))]
   all_goals exact (by (refine qa_ ?_;refine Sel4.mk rfl rfl ?_ ?_<;>(repeat' first|exact True.intro|exact rfl|exact .inl rfl|exact .inr rfl|refine And.intro ?_ ?_|fail)))
 ·have hce:checkN n=if errN n≠0 then errN n else if insN n=true∧n=wantN n then 0 else 4:=by unfold checkN;rw [if_neg (by omega)]
  rw [hce] at hK
  have hw1:(wantN n).kind=n.kind:=rfl
  have hw2:(wantN n).ins=n.ins:=rfl
  repeat' first|(refine fun (b:Bool) hb=>?_;cases b<;>first|exact absurd hb (by decide)|exact nfl hb|exact nfr hb|skip)|fail
  all_goals conv=>whnf
  all_goals refine hK _ (congrArg (V.int .i64) ?_)
  all_goals first|(rw [if_neg (by simpa using (by assumption:(!decide (errN n=0))=false))])|(rw [if_pos (by simpa using (by assumption:(!decide (errN n=0))=true))])
  ·have f1:insN n=true:=by simpa using (by assumption:(!insN n)=false)
   have f2:n.file=(wantN n).file:=by simpa using (by assumption:(!decide (n.file=(wantN n).file))=false)
   have f3:n.how=(wantN n).how:=by simpa using (by assumption:(!decide (n.how=(wantN n).how))=false)
   have f4:n.wide=(wantN n).wide:=by simpa using (by assumption:(!decide (n.wide=(wantN n).wide))=false)
   have f5:n.c=(wantN n).c:=by
    have h:=(by assumption:(!(decide (n.c.kind=(wantN n).c.kind) && (decide (n.c.word=(wantN n).c.word) && (decide (n.c.n=(wantN n).c.n) && true))))=false)
    have h:n.c.kind=(wantN n).c.kind∧n.c.word=(wantN n).c.word∧n.c.n=(wantN n).c.n:=by simpa using h
    exact qtp_ h.1 h.2.1 h.2.2
   rw [if_pos ⟨f1,qpu_ rfl f2 f5 f3 f4 rfl⟩]
  ·have f4:¬ n.wide=(wantN n).wide:=by simpa using (by assumption:(!decide (n.wide=(wantN n).wide))=true)
   rw [if_neg (fun x=>f4 (congrArg Gp.Node.wide x.2))]
  ·have f4:¬ n.how=(wantN n).how:=by simpa using (by assumption:(!decide (n.how=(wantN n).how))=true)
   rw [if_neg (fun x=>f4 (congrArg Gp.Node.how x.2))]
  ·have h:=(by assumption:(!(decide (n.c.kind=(wantN n).c.kind) && (decide (n.c.word=(wantN n).c.word) && (decide (n.c.n=(wantN n).c.n) && true))))=true)
   have f4:¬ n.c=(wantN n).c:=fun e=>by
    rw [←e] at h
    simp at h
   rw [if_neg (fun x=>f4 (congrArg Gp.Node.c x.2))]
  ·have f4:¬ n.file=(wantN n).file:=by simpa using (by assumption:(!decide (n.file=(wantN n).file))=true)
   rw [if_neg (fun x=>f4 (congrArg Gp.Node.file x.2))]
  ·have f4:¬ insN n=true:=by simpa using (by assumption:(!insN n)=true)
   rw [if_neg (fun x=>f4 x.1)]
end Gv
namespace Gv
variable [Glob] [Laid]
theorem qeo_:callable Tryz.prog 62=true:=by kernel_rfl
def checkG_S:Spec:=fun args K=>∃ N:List Gp.Node,args=[.agg [.sl nodeV N]]∧K (.int .i64 (checkG N))
noncomputable def checkG_lib:List (Nat × Spec):=[(125,checkN_S),(65,outs_S)]
noncomputable def checkG_fns:List (Nat × FnI):=[]
noncomputable def checkG_prims:List (Nat × PSpec):=[]
theorem qqg_:EnvOK ⟨Tryz.prog,tys,checkG_lib,checkG_fns,checkG_prims,[(47,[true,true])]⟩:=qf_ mixed0 tys0 (.cons qnu_ qll_ (.cons qfy_ qg7_ .nil)) .nil .nil (by kernel_rfl)
set_option maxHeartbeats 80000000 in
theorem qee_:Pure Tryz.prog 62 checkG_S:=by
 refine qe_ qqg_ 6 (fi:={fn:=Tryz.f62,hooks:=[16],draws:=[(14,[0,1,3,7,15,31,15,127,255,511,1023,2047,4095,8191,16383,32767,65535,32767,163839,32767,557055,1998847,4095999,8290303,16777215,33554431])]}) ⟨Tryz.func62,by kernel_rfl,by kernel_rfl⟩ ?_
 rintro _ K ⟨N,rfl,hK⟩
 replace hK:∀ r,r=.int .i64 (checkG N)→K r:=fun r h=>h ▸ hK
 unfold checkG at hK
 repeat' first|(refine fun (b:Bool) hb=>?_;cases b<;>first|exact absurd hb (by decide)|exact nfl hb|exact nfr hb|skip)|(refine fun (hl:_≤MAXL)=>?_)|refine ⟨Bool,V.lit,?_⟩|fail
 rotate_left
 ·have h:(60:Int)<(N.length:Int):=of_decide_eq_true (by assumption)
  rw [if_pos (by omega)] at hK
  exact hK _ rfl
 have h60:¬ (60:Int)<(N.length:Int):=of_decide_eq_false (by assumption)
 rw [if_neg (by omega)] at hK
 conv=>whnf
 refine qb_ [1,3,16,17] (σ:=Nat × Int × Ents) (fun s=>[(18,.int .i64 s.1),(4,.int .i64 s.2.1)]) (fun s=>[.box [.sl nodeV N],.mp 47 4 .pair V.lit s.2.2]) (fun s=>s.1≤N.length∧nodesGo N s.1 (N.drop s.1) s.2.1 s.2.2=nodesGo N 0 N 0 []∧0≤s.2.1∧s.2.1≤5*s.1) (fun s=>N.length-s.1) (0,0,[]) ?_
 conv=>whnf
 refine ⟨(by (refine qa_ ?_;refine Sel4.mk rfl rfl ?_ ?_<;>(repeat' first|exact True.intro|exact rfl|exact .inl rfl|exact .inr rfl|refine And.intro ?_ ?_|fail))),⟨Nat.zero_le _,rfl,by decide,by decide⟩,fun s hs=>?_⟩
 obtain ⟨i,o,u⟩:=s
 obtain ⟨hi,hgo,ho1,ho2⟩:=hs
 dsimp only at hi hgo ho1 ho2
 repeat' first|(refine fun (b:Bool) hb=>?_;cases b<;>first|exact absurd hb (by decide)|exact nfl hb|exact nfr hb|skip)|(refine fun (hl:_≤MAXL)=>?_)|refine ⟨_,rfl,?_,rfl,?_⟩|fail
 ·have hge:¬ (i:Int)<(N.length:Int):=of_decide_eq_false (by assumption)
  have h0:¬ (N.length:Int)=0:=of_decide_eq_false (by assumption)
  have h1:(u.length:Int)=o:=by simpa using (by assumption:(!decide ((u.length:Int)=o))=false)
  conv=>whnf
  refine hK _ (congrArg (V.int .i64) ?_)
  rw [←hgo,List.drop_eq_nil_of_le (by omega),nodesGo,if_neg (by omega)]
 ·have hge:¬ (i:Int)<(N.length:Int):=of_decide_eq_false (by assumption)
  have h1:¬ (u.length:Int)=o:=by simpa using (by assumption:(!decide ((u.length:Int)=o))=true)
  conv=>whnf
  refine hK _ (congrArg (V.int .i64) ?_)
  rw [←hgo,List.drop_eq_nil_of_le (by omega),nodesGo,if_pos (.inr h1)]
 ·have hge:¬ (i:Int)<(N.length:Int):=of_decide_eq_false (by assumption)
  have h0:(N.length:Int)=0:=of_decide_eq_true (by assumption)
  conv=>whnf
  refine hK _ (congrArg (V.int .i64) ?_)
  rw [←hgo,List.drop_eq_nil_of_le (by omega),nodesGo,if_pos (.inl (by omega))]
 ·have h:(i:Int)<(N.length:Int):=of_decide_eq_true (by assumption)
  show i<N.length
  omega
 have hlt:i<N.length:=by
  have h:(i:Int)<(N.length:Int):=of_decide_eq_true (by assumption)
  omega
 rw [v8_ hlt] at hgo
 conv=>whnf
 refine ⟨N[i],rfl,?_⟩
 repeat' first|(refine fun (b:Bool) hb=>?_;cases b<;>first|exact absurd hb (by decide)|exact nfl hb|exact nfr hb|skip)|(refine fun (hl:_≤MAXL)=>?_)|fail
 rotate_left
 ·have hcn:¬ checkN N[i]=0:=by simpa using (by assumption:(!decide (checkN N[i]=0))=true)
  rw [if_pos hcn] at hgo
  conv=>whnf
  exact hK _ (congrArg (V.int .i64) hgo)
 have hcn:checkN N[i]=0:=by simpa using (by assumption:(!decide (checkN N[i]=0))=false)
 rw [if_neg (fun h=>h hcn)] at hgo
 obtain ⟨ho3,ho4⟩:=qy_ hcn
 conv=>whnf
 refine qb_ [1,3,4,5,6,16,17,18,29,30] (σ:=Nat × Ents) (fun s=>[(31,.int .i64 s.1)]) (fun s=>[.box [.sl nodeV N],.mp 47 4 .pair V.lit s.2,.box (nodeV N[i]).cells]) (fun s=>s.1≤N[i].ins.length∧portsGo N i (N[i].ins.drop s.1) s.2=portsGo N i N[i].ins u) (fun s=>N[i].ins.length-s.1) (0,u) ?_
 conv=>whnf
 refine ⟨(by (refine qa_ ?_;refine Sel4.mk rfl rfl ?_ ?_<;>(repeat' first|exact True.intro|exact rfl|exact .inl rfl|exact .inr rfl|refine And.intro ?_ ?_|fail))),⟨Nat.zero_le _,rfl⟩,fun s hs=>?_⟩
 obtain ⟨j,v⟩:=s
 obtain ⟨hj,hpg⟩:=hs
 dsimp only at hj hpg
 repeat' first|(refine fun (b:Bool) hb=>?_;cases b<;>first|exact absurd hb (by decide)|exact nfl hb|exact nfr hb|skip)|(refine fun (hl:_≤MAXL)=>?_)|refine And.intro (a:=I64 _) ?_ ?_|refine ⟨_,rfl,?_,rfl,?_⟩|fail
 ·unfold I64;omega
 ·have hge:¬ (j:Int)<(N[i].ins.length:Int):=of_decide_eq_false (by assumption)
  have h5:=(by assumption:(!decide (N[i].kind=5) == decide ((i:Int)=(N.length:Int)-1))=false)
  have h6:decide (N[i].kind=5)=decide ((i:Int)=(N.length:Int)-1):=by simpa using h5
  rw [List.drop_eq_nil_of_le (by omega),portsGo] at hpg
  rw [←hpg,if_neg (fun h=>h rfl),if_neg (fun h=>h h6)] at hgo
  conv=>whnf
  refine ⟨N[i],rfl,?_⟩
  repeat' first|refine And.intro (a:=I64 _) ?_ ?_|fail
  ·show I64 (o+outsN N[i])
   unfold I64;omega
  ·show I64 ((i:Int)+1)
   unfold I64;omega
  conv=>whnf
  exact ⟨(i+1,o+outsN N[i],v),(by (refine qa_ ?_;refine Sel4.mk rfl rfl ?_ ?_<;>(repeat' first|exact True.intro|exact rfl|exact .inl rfl|exact .inr rfl|refine And.intro ?_ ?_|fail))),⟨hlt,hgo,by dsimp only;omega,by dsimp only;omega⟩,by show N.length-(i+1)<N.length-i;omega⟩
 ·have hge:¬ (j:Int)<(N[i].ins.length:Int):=of_decide_eq_false (by assumption)
  have h5:=(by assumption:(!decide (N[i].kind=5) == decide ((i:Int)=(N.length:Int)-1))=true)
  have h6:¬ decide (N[i].kind=5)=decide ((i:Int)=(N.length:Int)-1):=by simpa using h5
  rw [List.drop_eq_nil_of_le (by omega),portsGo] at hpg
  rw [←hpg,if_neg (fun h=>h rfl),if_pos h6] at hgo
  conv=>whnf
  refine hK _ (congrArg (V.int .i64) ?_)
  exact hgo
 ·have h:(j:Int)<(N[i].ins.length:Int):=of_decide_eq_true (by assumption)
  show j<N[i].ins.length
  omega
 have hjl:j<N[i].ins.length:=by
  have h:(j:Int)<(N[i].ins.length:Int):=of_decide_eq_true (by assumption)
  omega
 rw [qbw_ hjl] at hpg
 obtain ⟨p,hp⟩:∃ p,N[i].ins[j]=p:=⟨_,rfl⟩
 rw [hp] at hpg
 conv=>whnf
 refine qd_ [1,3,4,5,6,9,16,17,18,29,30,31] (σ:=Unit) (fun _=>[]) (fun _=>[.box [.sl nodeV N],.mp 47 4 .pair V.lit v,.box (nodeV N[i]).cells,.box [.int .i64 p.node,.int .i64 p.out]]) (fun _=>¬ (p.node<0∨(i:Int)≤p.node∨p.out<0∨outsN (N.getD p.node.toNat ⟨0,[],zCmd,0,0,[]⟩)≤p.out)) ?_
 conv=>whnf
 refine ⟨?_,fun _ hok=>?_⟩
 ·rw [hp]
  repeat' first|exact True.intro|(refine fun (b:Bool) hb=>?_;cases b<;>first|exact absurd hb (by decide)|exact nfl hb|exact nfr hb|skip)|refine ⟨_,⟨rfl,rfl⟩,?_⟩|refine And.intro (a:=chkPast _ _ _ _ _ _ _ _) ?_ ?_|fail
  ·have h1:¬ p.node<0:=of_decide_eq_false (by assumption)
   have h2:¬ (i:Int)≤p.node:=of_decide_eq_false (by assumption)
   have h3:¬ p.out<0:=of_decide_eq_false (by assumption)
   obtain ⟨k,hk⟩:∃ k:Nat,p.node=k:=⟨p.node.toNat,by omega⟩
   have hkN:k<N.length:=by omega
   have hgk:N.getD p.node.toNat ⟨0,[],zCmd,0,0,[]⟩=N[k]:=by
    rw [hk,Int.toNat_natCast,List.getD_eq_getElem?_getD,List.getElem?_eq_getElem hkN]
    rfl
   conv=>whnf
   refine ⟨_,⟨k,hk,hkN,rfl,rfl,rfl⟩,?_⟩
   repeat' first|refine ⟨_,⟨rfl,rfl⟩,?_⟩|fail
   apply Exists.intro
   apply And.intro
   ·refine ⟨N[k],rfl,?_⟩
    exact ⟨rfl,rfl⟩
   repeat' first|(refine fun (b:Bool) hb=>?_;cases b<;>first|exact absurd hb (by decide)|exact nfl hb|exact nfr hb|skip)|refine ⟨_,⟨rfl,rfl⟩,?_⟩|fail
   ·have h4:¬ outsN N[k]≤p.out:=of_decide_eq_false (by assumption)
    conv=>whnf
    exact ⟨(),(by (refine qa_ ?_;refine Sel4.mk rfl rfl ?_ ?_<;>(repeat' first|exact True.intro|exact rfl|exact .inl rfl|exact .inr rfl|refine And.intro ?_ ?_|fail))),by rw [hgk];omega⟩
   ·have h4:outsN N[k]≤p.out:=of_decide_eq_true (by assumption)
    rw [hgk,if_pos (by omega)] at hpg
    rw [←hpg,if_pos (show (5:Int)≠0 by decide)] at hgo
    conv=>whnf
    refine hK _ (congrArg (V.int .i64) ?_)
    exact hgo
  ·have h4:p.out<0:=of_decide_eq_true (by assumption)
   rw [if_pos (by omega)] at hpg
   rw [←hpg,if_pos (show (5:Int)≠0 by decide)] at hgo
   conv=>whnf
   refine hK _ (congrArg (V.int .i64) ?_)
   exact hgo
  ·have h4:(i:Int)≤p.node:=of_decide_eq_true (by assumption)
   rw [if_pos (by omega)] at hpg
   rw [←hpg,if_pos (show (5:Int)≠0 by decide)] at hgo
   conv=>whnf
   refine hK _ (congrArg (V.int .i64) ?_)
   exact hgo
  ·have h4:p.node<0:=of_decide_eq_true (by assumption)
   rw [if_pos (by omega)] at hpg
   rw [←hpg,if_pos (show (5:Int)≠0 by decide)] at hgo
   conv=>whnf
   refine hK _ (congrArg (V.int .i64) ?_)
   exact hgo
 ·rw [if_neg hok] at hpg
  obtain ⟨q,hq⟩:∃ q,mget false v [p.node,p.out]=q:=⟨_,rfl⟩
  rw [hq] at hpg
  conv=>whnf
  refine ⟨false,rfl,?_⟩
  conv =>
   arg 1
   rw [hq]
  cases q
  ·rw [if_neg (by decide)] at hpg
   repeat' first|refine And.intro (a:=I64 _) ?_ ?_|refine ⟨_,rfl,?_,rfl,?_⟩|fail
   ·rfl
   ·have hm:=(by assumption:N[i].ins.length≤MAXL)
    unfold MAXL at hm
    unfold I64;(try dsimp only);omega
   conv=>whnf
   exact ⟨(j+1,mput v [p.node,p.out] true),(by (refine qa_ ?_;refine Sel4.mk rfl rfl ?_ ?_<;>(repeat' first|exact True.intro|exact rfl|exact .inl rfl|exact .inr rfl|refine And.intro ?_ ?_|fail))),⟨hjl,hpg⟩,by show N[i].ins.length-(j+1)<N[i].ins.length-j;omega⟩
  ·rw [if_pos rfl] at hpg
   rw [←hpg,if_pos (show (6:Int)≠0 by decide)] at hgo
   conv=>whnf
   refine hK _ (congrArg (V.int .i64) ?_)
   exact hgo
end Gv
namespace Gv
variable [Glob] [Laid]
theorem qfp_:callable Tryz.prog 32=true:=by kernel_rfl
def cfiles_S:Spec:=fun args K=>∃ l:List FileS,args=[.sl fileV l]∧K (.int .i64 (checkFiles l))
noncomputable def cfiles_lib:List (Nat × Spec):=[(78,word_S)]
noncomputable def cfiles_fns:List (Nat × FnI):=[]
noncomputable def cfiles_prims:List (Nat × PSpec):=[]
theorem qpf_:EnvOK ⟨Tryz.prog,tys,cfiles_lib,cfiles_fns,cfiles_prims,[]⟩:=qf_ mixed0 tys0 (.cons qg4_ qhm_ .nil) .nil .nil rfl
theorem qfc_:Pure Tryz.prog 32 cfiles_S:=by
 refine qe_ qpf_ 6 (fi:={fn:=Tryz.f32,hooks:=[],draws:=[(10,[0,1,3,7,7,23,63,127,255,7,519,2047,4095])]}) ⟨Tryz.func32,by kernel_rfl,by kernel_rfl⟩ ?_
 rintro _ K ⟨l,rfl,hK⟩
 replace hK:∀ r,r=.int .i64 (checkFiles l)→K r:=fun r h=>h ▸ hK
 repeat' first|(refine fun (b:Bool) hb=>?_;cases b<;>first|exact absurd hb (by decide)|exact nfl hb|exact nfr hb|skip)|(refine fun (hl:_≤MAXL)=>?_)|fail
 rotate_left
 ·refine hK _ ?_
  have h:=of_decide_eq_true (by assumption:decide ((12:Int)<(l.length:Int))=true)
  unfold checkFiles
  rw [if_pos (by omega)]
 have h12:¬ 12<l.length:=by
  have h:=of_decide_eq_false (by assumption:decide ((12:Int)<(l.length:Int))=false)
  omega
 have hcf:checkFiles l=filesGo none l:=by unfold checkFiles;rw [if_neg h12]
 rw [hcf] at hK
 conv=>whnf
 refine qb_ [0,8,9] (σ:=Nat) (fun i=>[(10,.int .i64 i)]) (fun i=>[]) (fun i=>i≤l.length∧filesGo (prevN l i) (l.drop i)=filesGo none l) (fun i=>l.length-i) 0 ?_
 conv=>whnf
 refine ⟨(by (refine qa_ ?_;refine Sel4.mk rfl rfl ?_ ?_<;>(repeat' first|exact True.intro|exact rfl|exact .inl rfl|exact .inr rfl|refine And.intro ?_ ?_|fail))),⟨Nat.zero_le _,rfl⟩,fun i hi=>?_⟩
 obtain ⟨hi,hg⟩:=hi
 repeat' first|(refine fun (b:Bool) hb=>?_;cases b<;>first|exact absurd hb (by decide)|exact nfl hb|exact nfr hb|skip)|refine ⟨_,rfl,?_,rfl,?_⟩|fail
 ·have h:=of_decide_eq_false (by assumption:decide ((i:Int)<(l.length:Int))=false)
  have e:l.drop i=[]:=List.drop_eq_nil_of_le (by omega)
  rw [e] at hg
  conv=>whnf
  refine hK _ ?_
  rw [←hg]
  rfl
 ·have h:=of_decide_eq_true (by assumption:decide ((i:Int)<(l.length:Int))=true)
  show i<l.length
  omega
 have hlt:i<l.length:=by
  have h:=of_decide_eq_true (by assumption:decide ((i:Int)<(l.length:Int))=true)
  omega
 rw [qcg_ hlt] at hg
 refine ⟨l[i].name,rfl,?_⟩
 repeat' first|(refine fun (b:Bool) hb=>?_;cases b<;>first|exact absurd hb (by decide)|exact nfl hb|exact nfr hb|skip)|(refine fun (hl:_≤MAXL)=>?_)|refine And.intro (a:=I64 _) ?_ ?_|refine ⟨_,⟨rfl,rfl⟩,?_⟩|refine ⟨_,And.intro (a:=I64 _) ?_ ⟨rfl,rfl⟩,?_⟩|fail
 ·unfold I64;omega
 ·have h1:isWord l[i].name=true := by
   have h:(!isWord l[i].name)=false:=by assumption
   simpa using h
  have h2:¬ (4000:Int)<(l[i].b.length:Int):=of_decide_eq_false (by assumption)
  have h3:¬ (0:Int)<(i:Int):=of_decide_eq_false (by assumption)
  have e0:i=0:=by omega
  have h4:notRise (prevN l i) l[i].name=false:=by
   have:prevN l i=none:=by unfold prevN;rw [if_pos e0]
   rw [this];rfl
  rw [if_neg (by rw [h1];decide),if_neg (by omega),if_neg (by rw [h4];decide)] at hg
  exact ⟨i+1,(by (refine qa_ ?_;refine Sel4.mk rfl rfl ?_ ?_<;>(repeat' first|exact True.intro|exact rfl|exact .inl rfl|exact .inr rfl|refine And.intro ?_ ?_|fail))),⟨hlt,hg⟩,by omega⟩
 ·unfold I64;omega
 ·have h1:isWord l[i].name=true := by
   have h:(!isWord l[i].name)=false:=by assumption
   simpa using h
  have h2:¬ (4000:Int)<(l[i].b.length:Int):=of_decide_eq_false (by assumption)
  have h3:(0:Int)<(i:Int):=of_decide_eq_true (by assumption)
  have hp:prevN l i=some (l[i-1]'(by omega)).name:=by
   unfold prevN
   rw [if_neg (by omega),List.getD_eq_getElem?_getD,List.getElem?_eq_getElem (by omega)]
   rfl
  rw [if_neg (by rw [h1];decide),if_neg (by omega),hp] at hg
  conv=>whnf
  refine ⟨_,⟨i-1,by omega,by omega,rfl,rfl,rfl⟩,?_⟩
  repeat' first|exact True.intro|(refine fun (b:Bool) hb=>?_;cases b<;>first|exact absurd hb (by decide)|exact nfl hb|exact nfr hb|skip)|refine And.intro (a:=I64 _) ?_ ?_|refine ⟨_,⟨rfl,rfl⟩,?_⟩|refine And.intro (a:=chkPast _ _ _ _ _ _ _ _) ?_ ?_|fail
  ·unfold I64;omega
  ·have h4:notRise (some (l[i-1]'(by omega)).name) l[i].name=false := by
    have h:(!Op.bytesLess (l[i-1]'(by omega)).name l[i].name)=false:=by assumption
    exact h
   rw [if_neg (by rw [h4];decide)] at hg
   exact ⟨i+1,(by (refine qa_ ?_;refine Sel4.mk rfl rfl ?_ ?_<;>(repeat' first|exact True.intro|exact rfl|exact .inl rfl|exact .inr rfl|refine And.intro ?_ ?_|fail))),⟨hlt,hg⟩,by omega⟩
  ·have h4:notRise (some (l[i-1]'(by omega)).name) l[i].name=true := by
    have h:(!Op.bytesLess (l[i-1]'(by omega)).name l[i].name)=true:=by assumption
    exact h
   rw [if_pos h4] at hg
   conv=>whnf
   exact hK _ (by rw [←hg])
 ·have h1:isWord l[i].name=true := by
   have h:(!isWord l[i].name)=false:=by assumption
   simpa using h
  have h2:(4000:Int)<(l[i].b.length:Int):=of_decide_eq_true (by assumption)
  rw [if_neg (by rw [h1];decide),if_pos (by omega)] at hg
  conv=>whnf
  exact hK _ (by rw [←hg])
 ·have h1:isWord l[i].name=false := by
   have h:(!isWord l[i].name)=true:=by assumption
   simpa using h
  rw [if_pos h1] at hg
  conv=>whnf
  exact hK _ (by rw [←hg])
end Gv
namespace Gv
variable [Glob] [Laid]
theorem wd_:callable Tryz.prog 95=true:=by kernel_rfl
def inputsX_S:Spec:=fun args K=>∃ (N:List Gp.Node) (i:Nat),args=[.agg [.sl nodeV N],.int .i64 i]∧(i≤N.length∧(allIns N).length≤1000000000)∧K (.int .i64 (insB N i:Nat))
noncomputable def inputsX_lib:List (Nat × Spec):=[]
noncomputable def inputsX_fns:List (Nat × FnI):=[]
noncomputable def inputsX_prims:List (Nat × PSpec):=[]
theorem qni_:EnvOK ⟨Tryz.prog,tys,inputsX_lib,inputsX_fns,inputsX_prims,[]⟩:=qf_ mixed0 tys0 .nil .nil .nil rfl
theorem v0_:Pure Tryz.prog 95 inputsX_S:=by
 refine qe_ qni_ 6 (fi:={fn:=Tryz.f95,hooks:=[],draws:=[]}) ⟨Tryz.func95,by kernel_rfl,by kernel_rfl⟩ ?_
 rintro _ K ⟨N,i,rfl,⟨hi,hn⟩,hK⟩
 replace hK:∀ r,r=.int .i64 (insB N i:Nat)→K r:=fun r h=>h ▸ hK
 have hmono:∀ a b,a≤b→insB N a≤insB N b:=fun a b h=>by
  unfold insB
  rw [←List.take_append_drop a (N.take b),List.take_take,Nat.min_eq_left h,qp_,List.length_append]
  omega
 have hall:insB N N.length=(allIns N).length:=by unfold insB;rw [List.take_length]
 have hstep:∀ j (h:j<N.length),insB N (j+1)=insB N j+N[j].ins.length:=fun j h=>by
  unfold insB
  rw [List.take_succ_eq_append_getElem h,qp_,List.length_append]
  simp [allIns]
 repeat' first|refine ⟨(fun _=>rfl),?_⟩|fail
 refine ⟨i,rfl,hi,?_⟩
 repeat' first|(refine fun (hl:_≤MAXL)=>?_)|fail
 conv=>whnf
 refine qb_ [11,12] (σ:=Nat) (fun j=>[(13,.int .i64 j),(5,.int .i64 (insB N j:Nat))]) (fun _=>[.box [.sl nodeV N]]) (fun j=>j≤i) (fun j=>i-j) 0 ?_
 conv=>whnf
 refine ⟨(by (refine qc_ [some 0] rfl rfl ?_ ?_<;>(repeat' first|exact True.intro|exact rfl|exact .inl rfl|exact .inr rfl|refine And.intro ?_ ?_|fail))),Nat.zero_le _,fun j hj=>?_⟩
 have htl:(N.take i).length=i:=by rw [List.length_take];omega
 repeat' first|(refine fun (b:Bool) hb=>?_;cases b<;>first|exact absurd hb (by decide)|exact nfl hb|exact nfr hb|skip)|(refine fun (hl:_≤MAXL)=>?_)|refine And.intro (a:=I64 _) ?_ ?_|refine ⟨_,rfl,?_,rfl,?_⟩|fail
 ·have hji:j=i := by
   have h:=of_decide_eq_false (by assumption:decide ((j:Int)<((N.take i).length:Int))=false)
   omega
  subst hji
  conv=>whnf
  exact hK _ rfl
 ·have h:=of_decide_eq_true (by assumption:decide ((j:Int)<((N.take i).length:Int))=true)
  omega
 all_goals
  have hj2:j<i:=by
   have h:=of_decide_eq_true (by assumption:decide ((j:Int)<((N.take i).length:Int))=true)
   omega
  have hjN:j<N.length:=by omega
  have hge:(N.take i)[j]'(by omega)=N[j]:=List.getElem_take
  have hs:=hstep j hjN
  have hm:=hmono (j+1) N.length (by omega)
  rw [hall] at hm
 ·rw [hge]
  unfold I64;omega
 ·have hM:(N.take i).length≤MAXL:=by assumption
  rw [htl] at hM
  unfold I64;unfold MAXL at hM;omega
 ·refine ⟨j+1,?_,by omega,by omega⟩
  have e:((insB N (j+1):Nat):Int)=(insB N j:Int)+(((N.take i)[j]'(by omega)).ins.length:Int):=by rw [hge,hs];omega
  show Wk _ _ _ ([(13,.int .i64 ((j+1:Nat):Int)),(5,.int .i64 ((insB N (j+1):Nat):Int))]++_) _
  rw [e]
  exact (by (refine qc_ [some 0] rfl rfl ?_ ?_<;>(repeat' first|exact True.intro|exact rfl|exact .inl rfl|exact .inr rfl|refine And.intro ?_ ?_|fail)))
end Gv
namespace Gv
variable [Glob] [Laid]
def machV (m:MachS):V:=.agg [.sl nodeV m.g,.sl fileV m.f,.sl pipeV m.pipes,.sl procV m.p,.sl byteV m.sunk]
theorem wc_:callable Tryz.prog 41=true:=by kernel_rfl
def checkMX_S:Spec:=fun args K=>∃ (m:MachS),args=[machV m]∧K (.int .i64 (checkMach m))
noncomputable def checkMX_lib:List (Nat × Spec):=[(62,checkG_S),(32,cfiles_S),(21,check_S),(95,inputsX_S),(96,checkPX_S)]
noncomputable def checkMX_fns:List (Nat × FnI):=[]
noncomputable def checkMX_prims:List (Nat × PSpec):=[]
theorem qmx_:EnvOK ⟨Tryz.prog,tys,checkMX_lib,checkMX_fns,checkMX_prims,[]⟩:=qf_ mixed0 tys0 (.cons qeo_ qee_ (.cons qfp_ qfc_ (.cons vh_ vo_ (.cons wd_ v0_ (.cons qji_ qj2_ .nil))))) .nil .nil rfl
theorem vt_:Pure Tryz.prog 41 checkMX_S:=by
 refine qe_ qmx_ 6 (fi:={fn:=Tryz.f41,hooks:=[4,7,9],draws:=[(7,[0,1,3,0,8,24,56,127,255,511,1023,2047,511,4607,511,16895,49663,115199,258559,524287,1048575]),(19,[0,1,3,0,15,31,0,127,255])]}) ⟨Tryz.func41,by kernel_rfl,by kernel_rfl⟩ ?_
 rintro _ K ⟨m,rfl,hK⟩
 replace hK:∀ r,r=.int .i64 (checkMach m)→K r:=fun r h=>h ▸ hK
 conv=>whnf
 refine qd_ [1] (σ:=Unit) (fun _=>[(1,.ptr 0 0 0)]) (fun _=>[.box (machV m).cells]) (fun _=>checkG m.g=0) ?_
 conv=>whnf
 refine ⟨?_,fun _ hg=>?_⟩
 ·conv=>whnf
  refine ⟨m.g,rfl,?_⟩
  repeat' first|(refine fun (b:Bool) hb=>?_;cases b<;>first|exact absurd hb (by decide)|exact nfl hb|exact nfr hb|skip)|fail
  ·exact ⟨(),(by (refine qa_ ?_;refine Sel4.mk rfl rfl ?_ ?_<;>(repeat' first|exact True.intro|exact rfl|exact .inl rfl|exact .inr rfl|refine And.intro ?_ ?_|fail))),by simpa using ‹(!decide (checkG m.g=0))=false›⟩
  ·have h:checkG m.g≠0:=by simpa using ‹(!decide (checkG m.g=0))=true›
   conv=>whnf
   refine hK _ ?_
   unfold checkMach
   rw [if_pos h]
 conv=>whnf
 refine qd_ [1] (σ:=Unit) (fun _=>[]) (fun _=>[.box (machV m).cells]) (fun _=>checkFiles m.f=0) ?_
 conv=>whnf
 refine ⟨?_,fun _ hf=>?_⟩
 ·conv=>whnf
  refine ⟨m.f,rfl,?_⟩
  repeat' first|(refine fun (b:Bool) hb=>?_;cases b<;>first|exact absurd hb (by decide)|exact nfl hb|exact nfr hb|skip)|fail
  ·exact ⟨(),(by (refine qa_ ?_;refine Sel4.mk rfl rfl ?_ ?_<;>(repeat' first|exact True.intro|exact rfl|exact .inl rfl|exact .inr rfl|refine And.intro ?_ ?_|fail))),by simpa using ‹(!decide (checkFiles m.f=0))=false›⟩
  ·have h:checkFiles m.f≠0:=by simpa using ‹(!decide (checkFiles m.f=0))=true›
   conv=>whnf
   refine hK _ ?_
   unfold checkMach
   rw [if_neg (by rw [hg];decide),if_pos h]
 have hgf:=gf_of hg
 have hin:=zt_ m.g
 have c4:(m.p.length≠m.g.length∨m.pipes.length≠(allIns m.g).length)→V.int .i64 4=V.int .i64 (checkMach m):=fun h=>by unfold checkMach;rw [if_neg (by rw [hg];decide),if_neg (by rw [hf];decide),if_pos h]
 conv=>whnf
 refine qd_ [1] (σ:=Unit) (fun _=>[]) (fun _=>[.box (machV m).cells]) (fun _=>¬ (m.p.length≠m.g.length∨m.pipes.length≠(allIns m.g).length)) ?_
 conv=>whnf
 refine ⟨?_,fun _ hl=>?_⟩
 ·conv=>whnf
  repeat' first|exact True.intro|(refine fun (b:Bool) hb=>?_;cases b<;>first|exact absurd hb (by decide)|exact nfl hb|exact nfr hb|skip)|refine ⟨_,⟨rfl,rfl⟩,?_⟩|refine ⟨_,(fun _=>⟨rfl,rfl⟩),?_⟩|refine And.intro (a:=chkPast _ _ _ _ _ _ _ _) ?_ ?_|fail
  ·conv=>whnf
   apply Exists.intro
   apply And.intro
   ·refine ⟨m.g,m.g.length,rfl,⟨Nat.le_refl _,qq_ hg⟩,?_⟩
    exact ⟨rfl,rfl⟩
   rw [hin]
   conv=>whnf
   repeat' first|(refine fun (b:Bool) hb=>?_;cases b<;>first|exact absurd hb (by decide)|exact nfl hb|exact nfr hb|skip)|refine ⟨_,⟨rfl,rfl⟩,?_⟩|fail
   all_goals (try (conv=>whnf))
   all_goals (skip)
   all_goals first
    | exact hK _ (c4 (by grind))
    | exact ⟨(),(by (refine qa_ ?_;refine Sel4.mk rfl rfl ?_ ?_<;>(repeat' first|exact True.intro|exact rfl|exact .inl rfl|exact .inr rfl|refine And.intro ?_ ?_|fail))),by grind⟩
  ·conv=>whnf
   all_goals (try (conv=>whnf))
   all_goals (skip)
   all_goals exact hK _ (c4 (by grind))
 have hbase:checkMach m=if pipesBad m.pipes≠0 then pipesBad m.pipes else if procsBad m.g m.p≠0 then procsBad m.g m.p else if 40000<m.sunk.length then 2 else 0:=by
  unfold checkMach
  rw [if_neg (by rw [hg];decide),if_neg (by rw [hf];decide),if_neg hl]
 conv=>whnf
 repeat' first|(refine fun (hl:_≤MAXL)=>?_)|fail
 conv=>whnf
 refine qb_ [1,45,46] (σ:=Nat) (fun k=>[(47,.int .i64 k)]) (fun _=>[.box (machV m).cells]) (fun k=>k≤m.pipes.length∧pipesBad (m.pipes.drop k)=pipesBad m.pipes) (fun k=>m.pipes.length-k) 0 ?_
 conv=>whnf
 refine ⟨(by (refine qa_ ?_;refine Sel4.mk rfl rfl ?_ ?_<;>(repeat' first|exact True.intro|exact rfl|exact .inl rfl|exact .inr rfl|refine And.intro ?_ ?_|fail))),⟨Nat.zero_le _,rfl⟩,fun k hk=>?_⟩
 obtain ⟨hk,hno⟩:=hk
 repeat' first|(refine fun (b:Bool) hb=>?_;cases b<;>first|exact absurd hb (by decide)|exact nfl hb|exact nfr hb|skip)|(refine fun (hl:_≤MAXL)=>?_)|refine ⟨_,rfl,?_,rfl,?_⟩|fail
 rotate_left
 ·have h:=of_decide_eq_true (by assumption:decide ((k:Int)<(m.pipes.length:Int))=true)
  omega
 ·have hk2:k<m.pipes.length := by
   have h:=of_decide_eq_true (by assumption:decide ((k:Int)<(m.pipes.length:Int))=true)
   omega
  have hst:pipesBad (m.pipes.drop k)=if checkPipe m.pipes[k]≠0 then checkPipe m.pipes[k] else pipesBad (m.pipes.drop (k+1)):=by
   rw [List.drop_eq_getElem_cons hk2];rfl
  rw [hno] at hst
  conv=>whnf
  refine ⟨m.pipes[k],rfl,?_⟩
  rw [qz_]
  repeat' first|(refine fun (b:Bool) hb=>?_;cases b<;>first|exact absurd hb (by decide)|exact nfl hb|exact nfr hb|skip)|refine And.intro (a:=I64 _) ?_ ?_|fail
  ·have hM:m.pipes.length≤MAXL:=by assumption
   unfold I64;unfold MAXL at hM;omega
  ·have h0:checkPipe m.pipes[k]=0:=by simpa using ‹(!decide (checkPipe m.pipes[k]=0))=false›
   rw [if_neg (by rw [h0];decide)] at hst
   exact ⟨k+1,(by (refine qa_ ?_;refine Sel4.mk rfl rfl ?_ ?_<;>(repeat' first|exact True.intro|exact rfl|exact .inl rfl|exact .inr rfl|refine And.intro ?_ ?_|fail))),⟨hk2,hst.symm⟩,by omega⟩
  ·have h0:checkPipe m.pipes[k]≠0:=by simpa using ‹(!decide (checkPipe m.pipes[k]=0))=true›
   rw [if_pos h0] at hst
   conv=>whnf
   refine hK _ ?_
   rw [hbase,hst,if_pos h0]
 have hkl:k=m.pipes.length:=by
  have h:=of_decide_eq_false (by assumption:decide ((k:Int)<(m.pipes.length:Int))=false)
  omega
 subst hkl
 rw [List.drop_length] at hno
 have hp0:pipesBad m.pipes=0:=by rw [←hno];rfl
 rw [if_neg (by rw [hp0];decide)] at hbase
 conv=>whnf
 refine qb_ [1,58,59] (σ:=Nat) (fun k=>[(60,.int .i64 k)]) (fun _=>[.box (machV m).cells]) (fun k=>k≤m.p.length∧procsBad (m.g.drop k) (m.p.drop k)=procsBad m.g m.p) (fun k=>m.p.length-k) 0 ?_
 conv=>whnf
 refine ⟨(by (refine qa_ ?_;refine Sel4.mk rfl rfl ?_ ?_<;>(repeat' first|exact True.intro|exact rfl|exact .inl rfl|exact .inr rfl|refine And.intro ?_ ?_|fail))),⟨Nat.zero_le _,rfl⟩,fun k hk=>?_⟩
 obtain ⟨hk,hno⟩:=hk
 have hpl:m.p.length=m.g.length:=by omega
 have hend:k=m.p.length→procsBad m.g m.p=0:=fun e=>by
  rw [←hno,e,List.drop_length]
  cases m.g.drop m.p.length<;>rfl
 have hst:∀ (hk2:k<m.p.length) (hk3:k<m.g.length),procsBad m.g m.p=if checkProc m.g[k] m.p[k]≠0 then checkProc m.g[k] m.p[k] else procsBad (m.g.drop (k+1)) (m.p.drop (k+1)):=fun hk2 hk3=>by
  rw [←hno,List.drop_eq_getElem_cons hk2,List.drop_eq_getElem_cons hk3];rfl
 repeat' first|exact True.intro|(refine fun (b:Bool) hb=>?_;cases b<;>first|exact absurd hb (by decide)|exact nfl hb|exact nfr hb|skip)|(refine fun (hl:_≤MAXL)=>?_)|refine ⟨_,⟨rfl,rfl⟩,?_⟩|refine And.intro (a:=chkPast _ _ _ _ _ _ _ _) ?_ ?_|refine ⟨_,⟨_,rfl,?_,rfl,rfl,rfl⟩,?_⟩|refine ⟨_,rfl,?_,rfl,?_⟩|fail
 ·have hkl := hend (by
   have h:=of_decide_eq_false (by assumption:decide ((k:Int)<(m.p.length:Int))=false)
   omega)
  conv=>whnf
  refine hK _ ?_
  rw [hbase,if_neg (by rw [hkl];decide),if_neg]
  have h:=of_decide_eq_false (by assumption:decide (40000<(m.sunk.length:Int))=false)
  omega
 ·have hkl := hend (by
   have h:=of_decide_eq_false (by assumption:decide ((k:Int)<(m.p.length:Int))=false)
   omega)
  conv=>whnf
  refine hK _ ?_
  rw [hbase,if_neg (by rw [hkl];decide),if_pos]
  have h:=of_decide_eq_true (by assumption:decide (40000<(m.sunk.length:Int))=true)
  omega
 all_goals
  have hk2:k<m.p.length:=by
   have h:=of_decide_eq_true (by assumption:decide ((k:Int)<(m.p.length:Int))=true)
   omega
 ·exact hk2
 ·omega
 have hk3:k<m.g.length:=by omega
 have hst:=hst hk2 hk3
 have hcn:=hgf.node k hk3
 rw [qt_ hk3] at hcn
 conv=>whnf
 apply Exists.intro
 apply And.intro
 ·refine ⟨m.g[k],m.p[k],rfl,hcn,?_⟩
  exact ⟨rfl,rfl⟩
 conv=>whnf
 repeat' first|(refine fun (b:Bool) hb=>?_;cases b<;>first|exact absurd hb (by decide)|exact nfl hb|exact nfr hb|skip)|refine And.intro (a:=I64 _) ?_ ?_|refine ⟨_,⟨rfl,rfl⟩,?_⟩|fail
 ·have hM:m.p.length≤MAXL:=by assumption
  unfold I64;unfold MAXL at hM;omega
 ·have h0:checkProc m.g[k] m.p[k]=0:=by simpa using ‹(!decide (checkProc m.g[k] m.p[k]=0))=false›
  rw [if_neg (by rw [h0];decide)] at hst
  exact ⟨k+1,(by (refine qa_ ?_;refine Sel4.mk rfl rfl ?_ ?_<;>(repeat' first|exact True.intro|exact rfl|exact .inl rfl|exact .inr rfl|refine And.intro ?_ ?_|fail))),⟨hk2,hst.symm⟩,by omega⟩
 ·have h0:checkProc m.g[k] m.p[k]≠0:=by simpa using ‹(!decide (checkProc m.g[k] m.p[k]=0))=true›
  rw [if_pos h0] at hst
  conv=>whnf
  refine hK _ ?_
  rw [hbase,hst,if_pos h0]
end Gv
namespace Gv
variable [Glob] [Laid]
theorem qs5_:callable Tryz.prog 103=true:=by kernel_rfl
def ownL_P:PSpec:=fun args rows K=>∃ (l:List Bs),args=[.sl blV l]∧rows=[]∧(l.length*24≤140737488355328∧∀ b∈l,b.length≤140737488355328)∧K (.own 0) [.row 1 (l.map blV)]
noncomputable def ownL_lib:List (Nat × Spec):=[]
noncomputable def ownL_fns:List (Nat × FnI):=[]
noncomputable def ownL_prims:List (Nat × PSpec):=[]
theorem qu8_:EnvOK ⟨Tryz.prog,tys,ownL_lib,ownL_fns,ownL_prims,[]⟩:=qf_ mixed0 tys0 .nil .nil .nil rfl
theorem qog_:PrimOK Tryz.prog 103 ownL_P:=by
 refine q3_ qu8_ 6 qs5_ (fi:={fn:=Tryz.f103,hooks:=[],draws:=[]}) ⟨Tryz.func103,by kernel_rfl,by kernel_rfl⟩ ?_
 rintro args rows K ⟨l,rfl,rfl,⟨h1,h2⟩,hK⟩
 repeat' first|(refine fun (hl:_≤MAXL)=>?_)|fail
 conv=>whnf
 refine qb_ [6,7] (σ:=Nat) (fun i=>[(8,.int .i64 i),(3,.own 0)]) (fun i=>[.row 1 ((l.take i).map blV)]) (fun i=>i≤l.length) (fun i=>l.length-i) 0 ?_
 conv=>whnf
 refine ⟨(by (refine qc_ [none] rfl rfl ?_ ?_<;>(repeat' first|exact True.intro|exact rfl|exact .inl rfl|exact .inr rfl|refine And.intro ?_ ?_|fail))),Nat.zero_le _,fun i hi=>?_⟩
 repeat' first|refine ⟨_,_,_,LeL.refl _,?_⟩|(refine fun (b:Bool) hb=>?_;cases b<;>first|exact absurd hb (by decide)|exact nfl hb|exact nfr hb|skip)|refine And.intro (a:=I64 _) ?_ ?_|refine And.intro (a:=_≤140737488355328) ?_ ?_|refine ⟨_,rfl,?_,rfl,?_⟩|refine ⟨(fun _=>rfl),?_⟩|refine ⟨rfl,?_⟩|fail
 ·have hge:¬ (i:Int)<(l.length:Int):=of_decide_eq_false (by assumption)
  have e:i=l.length:=by omega
  subst e
  rw [List.take_length]
  conv=>whnf
  exact hK
 ·have h:=of_decide_eq_true (by assumption:decide ((i:Int)<(l.length:Int))=true)
  show i<l.length
  omega
 all_goals
  have hlt:i<l.length:=by
   have h:=of_decide_eq_true (by assumption:decide ((i:Int)<(l.length:Int))=true)
   omega
 ·have:=h2 _ (List.getElem_mem hlt)
  show (0+(List.map byteV l[i]).length)*1≤_
  rw [List.length_map];omega
 ·show ((List.map blV (List.take i l)).length+1)*24≤_
  rw [List.length_map,List.length_take];omega
 ·unfold I64;omega
 conv=>whnf
 refine ⟨i+1,?_,hlt,by omega⟩
 rw [List.take_succ_eq_append_getElem hlt,List.map_append]
 exact (by (refine qa_ ?_;refine Sel4.mk rfl rfl ?_ ?_<;>(repeat' first|exact True.intro|exact rfl|exact .inl rfl|exact .inr rfl|refine And.intro ?_ ?_|fail)))
end Gv
namespace Gv
variable [Glob] [Laid]
structure ownZ (m:MachS):Prop where
 g:m.g.length*96≤140737488355328∧∀ n∈m.g,n.ins.length*16≤140737488355328
 f:m.f.length*40≤140737488355328∧∀ f∈m.f,f.b.length≤140737488355328
 s:m.sunk.length≤140737488355328
 q:m.pipes.length*40≤140737488355328∧∀ p∈m.pipes,p.b.length≤140737488355328
 p:m.p.length*64≤140737488355328
 go:∀ p∈m.p,(p.got.length*24≤140737488355328∧∀ b∈p.got,b.length≤140737488355328)∧(p.out.length*24≤140737488355328∧∀ b∈p.out,b.length≤140737488355328)
theorem qtr_:callable Tryz.prog 45=true:=by kernel_rfl
def ownM_P:PSpec:=fun args rows K=>∃ (m:MachS),args=[machV m]∧rows=[]∧ownZ m∧∀ Q ex,K (.agg [.sl nodeV m.g,.sl fileV m.f,.own 0,.own 1,.sl byteV m.sunk]) ([.row 4 (m.pipes.map pipeV),.row 5 (procEls Q m.p),.pack Q (subsOf m.p)]++ex)
noncomputable def ownM_lib:List (Nat × Spec):=[]
noncomputable def ownM_fns:List (Nat × FnI):=[]
noncomputable def ownM_prims:List (Nat × PSpec):=[(103,ownL_P)]
theorem quz_:EnvOK ⟨Tryz.prog,tys,ownM_lib,ownM_fns,ownM_prims,[]⟩:=qf_ mixed0 tys0 .nil .nil (.cons qog_ .nil) rfl
theorem qnq_:PrimOK Tryz.prog 45 ownM_P:=by
 refine q3_ quz_ 6 qtr_ (fi:={fn:=Tryz.f45,hooks:=[24],draws:=[(23,[0,1,3,0,8,31,31,127,255,511])]}) ⟨Tryz.func45,by kernel_rfl,by kernel_rfl⟩ ?_
 rintro args rows K ⟨m,rfl,rfl,hz,hK⟩
 conv=>whnf
 repeat' first|(refine fun (hl:_≤MAXL)=>?_)|refine And.intro (a:=_≤140737488355328) ?_ ?_|refine ⟨(fun _=>rfl),?_⟩|fail
 ·show (0+(List.map byteV m.sunk).length)*1≤_
  have:=hz.s
  rw [List.length_map];omega
 conv=>whnf
 refine qb_ [19,20] (σ:=Nat) (fun k=>[(21,.int .i64 k),(1,.ptr 4 0 0),(2,.ptr 5 0 0),(3,.ptr 3 0 0)]) (fun k=>[.dead,.dead,.row 8 ((m.g.take k).map nodeV),.box [.own 2,.nil,.nil,.nil,.sl byteV m.sunk],.box (machV m).cells,.box [.nil,.nil,.nil,.nil,.nil]]) (fun k=>k≤m.g.length) (fun k=>m.g.length-k) 0 ?_
 conv=>whnf
 refine ⟨(wk_fz 3 (k:=1) (enc:=byteV) (l:=m.sunk) rfl (LeL.refl _)).trans (by (refine qc_ [some 2,some 3,none,some 4,some 0,some 1] rfl rfl ?_ ?_<;>(repeat' first|exact True.intro|exact rfl|exact .inl rfl|exact .inr rfl|refine And.intro ?_ ?_|fail))),Nat.zero_le _,fun k hk=>?_⟩
 have hlt:decide ((k:Int)<(m.g.length:Int))=true→k<m.g.length:=fun h=>by
  have h:=of_decide_eq_true h
  omega
 repeat' first|refine ⟨_,_,_,LeL.refl _,?_⟩|(refine fun (b:Bool) hb=>?_;cases b<;>first|exact absurd hb (by decide)|exact nfl hb|exact nfr hb|skip)|(refine fun (hl:_≤MAXL)=>?_)|refine And.intro (a:=I64 _) ?_ ?_|refine And.intro (a:=_≤140737488355328) ?_ ?_|refine ⟨_,rfl,?_,rfl,?_⟩|refine ⟨(fun _=>rfl),?_⟩|refine ⟨rfl,?_⟩|fail
 rotate_left
 ·exact hlt (by assumption)
 ·have hk2:=hlt (by assumption)
  show (0+(m.g[k].ins.map portV).length)*16≤_
  have:=hz.g.2 _ (List.getElem_mem hk2)
  rw [List.length_map];omega
 ·show (((m.g.take k).map nodeV).length+1)*96≤_
  have:=hz.g.1
  have:=hlt (by assumption)
  rw [List.length_map,List.length_take];omega
 ·have hk2:=hlt (by assumption)
  have hM:m.g.length≤MAXL:=by assumption
  unfold MAXL at hM;unfold I64;omega
 ·have hk2:=hlt (by assumption)
  conv=>whnf
  refine ⟨k+1,?_,hk2,by omega⟩
  rw [List.take_succ_eq_append_getElem hk2,List.map_append]
  exact (by (refine qc_ [some 0,some 1,some 10,some 3,some 4,some 5] rfl rfl ?_ ?_<;>(repeat' first|exact True.intro|exact rfl|exact .inl rfl|exact .inr rfl|refine And.intro ?_ ?_|fail)))
 have hkl:k=m.g.length:=by
  have h:=of_decide_eq_false (by assumption:decide ((k:Int)<(m.g.length:Int))=false)
  omega
 subst hkl
 rw [List.take_length]
 clear hlt
 conv=>whnf
 refine qb_ [1,2,3,40,41] (σ:=Nat) (fun k=>[(42,.int .i64 k)]) (fun k=>[.dead,.dead,.row 2 ((m.f.take k).map fileV),.box [.sl nodeV m.g,.own 2,.nil,.nil,.sl byteV m.sunk],.box (machV m).cells,.box [.nil,.nil,.nil,.nil,.nil]]) (fun k=>k≤m.f.length) (fun k=>m.f.length-k) 0 ?_
 conv=>whnf
 refine ⟨(wk_fz 2 (k:=8) (enc:=nodeV) (l:=m.g) rfl (LeL.refl _)).trans (by (refine qc_ [some 0,some 1,none,some 3,some 4,some 5] rfl rfl ?_ ?_<;>(repeat' first|exact True.intro|exact rfl|exact .inl rfl|exact .inr rfl|refine And.intro ?_ ?_|fail))),Nat.zero_le _,fun k hk=>?_⟩
 have hlt:decide ((k:Int)<(m.f.length:Int))=true→k<m.f.length:=fun h=>by
  have h:=of_decide_eq_true h
  omega
 repeat' first|refine ⟨_,_,_,LeL.refl _,?_⟩|(refine fun (b:Bool) hb=>?_;cases b<;>first|exact absurd hb (by decide)|exact nfl hb|exact nfr hb|skip)|(refine fun (hl:_≤MAXL)=>?_)|refine And.intro (a:=I64 _) ?_ ?_|refine And.intro (a:=_≤140737488355328) ?_ ?_|refine ⟨_,rfl,?_,rfl,?_⟩|refine ⟨(fun _=>rfl),?_⟩|refine ⟨rfl,?_⟩|fail
 rotate_left
 ·exact hlt (by assumption)
 ·have hk2:=hlt (by assumption)
  show (0+(m.f[k].b.map byteV).length)*1≤_
  have:=hz.f.2 _ (List.getElem_mem hk2)
  rw [List.length_map];omega
 ·show (((m.f.take k).map fileV).length+1)*40≤_
  have:=hz.f.1
  have:=hlt (by assumption)
  rw [List.length_map,List.length_take];omega
 ·have hk2:=hlt (by assumption)
  have hM:m.f.length≤MAXL:=by assumption
  unfold MAXL at hM;unfold I64;omega
 ·have hk2:=hlt (by assumption)
  conv=>whnf
  refine ⟨k+1,?_,hk2,by omega⟩
  rw [List.take_succ_eq_append_getElem hk2,List.map_append]
  exact (by (refine qc_ [some 0,some 1,some 10,some 3,some 4,some 5] rfl rfl ?_ ?_<;>(repeat' first|exact True.intro|exact rfl|exact .inl rfl|exact .inr rfl|refine And.intro ?_ ?_|fail)))
 have hkl:k=m.f.length:=by
  have h:=of_decide_eq_false (by assumption:decide ((k:Int)<(m.f.length:Int))=false)
  omega
 subst hkl
 rw [List.take_length]
 clear hlt
 conv=>whnf
 refine qb_ [1,2,3,59,60] (σ:=Nat) (fun k=>[(61,.int .i64 k)]) (fun k=>[.row 4 ((m.pipes.take k).map pipeV),.dead,.dead,.box [.sl nodeV m.g,.sl fileV m.f,.own 0,.nil,.sl byteV m.sunk],.box (machV m).cells,.box [.nil,.nil,.nil,.nil,.nil]]) (fun k=>k≤m.pipes.length) (fun k=>m.pipes.length-k) 0 ?_
 conv=>whnf
 refine ⟨(wk_fz 2 (k:=2) (enc:=fileV) (l:=m.f) rfl (LeL.refl _)).trans (by (refine qc_ [none,some 0,some 1,some 3,some 4,some 5] rfl rfl ?_ ?_<;>(repeat' first|exact True.intro|exact rfl|exact .inl rfl|exact .inr rfl|refine And.intro ?_ ?_|fail))),Nat.zero_le _,fun k hk=>?_⟩
 have hlt:decide ((k:Int)<(m.pipes.length:Int))=true→k<m.pipes.length:=fun h=>by
  have h:=of_decide_eq_true h
  omega
 repeat' first|refine ⟨_,_,_,LeL.refl _,?_⟩|(refine fun (b:Bool) hb=>?_;cases b<;>first|exact absurd hb (by decide)|exact nfl hb|exact nfr hb|skip)|(refine fun (hl:_≤MAXL)=>?_)|refine And.intro (a:=I64 _) ?_ ?_|refine And.intro (a:=_≤140737488355328) ?_ ?_|refine ⟨_,rfl,?_,rfl,?_⟩|refine ⟨(fun _=>rfl),?_⟩|refine ⟨rfl,?_⟩|fail
 rotate_left
 ·exact hlt (by assumption)
 ·have hk2:=hlt (by assumption)
  show (0+(m.pipes[k].b.map byteV).length)*1≤_
  have:=hz.q.2 _ (List.getElem_mem hk2)
  rw [List.length_map];omega
 ·show (((m.pipes.take k).map pipeV).length+1)*40≤_
  have:=hz.q.1
  have:=hlt (by assumption)
  rw [List.length_map,List.length_take];omega
 ·have hk2:=hlt (by assumption)
  have hM:m.pipes.length≤MAXL:=by assumption
  unfold MAXL at hM;unfold I64;omega
 ·have hk2:=hlt (by assumption)
  conv=>whnf
  refine ⟨k+1,?_,hk2,by omega⟩
  rw [List.take_succ_eq_append_getElem hk2,List.map_append]
  exact (by (refine qc_ [some 10,some 1,some 2,some 3,some 4,some 5] rfl rfl ?_ ?_<;>(repeat' first|exact True.intro|exact rfl|exact .inl rfl|exact .inr rfl|refine And.intro ?_ ?_|fail)))
 have hkl:k=m.pipes.length:=by
  have h:=of_decide_eq_false (by assumption:decide ((k:Int)<(m.pipes.length:Int))=false)
  omega
 subst hkl
 rw [List.take_length]
 clear hlt
 conv=>whnf
 refine qb_ [2,3,78,79] (σ:=Nat × Loc) (fun s=>[(80,.int .i64 s.1)]) (fun s=>[.row 4 (m.pipes.map pipeV),.row 5 (procEls s.2 (m.p.take s.1)),.pack s.2 (subsOf (m.p.take s.1)),.box [.sl nodeV m.g,.sl fileV m.f,.own 0,.own 1,.sl byteV m.sunk],.box (machV m).cells,.box [.nil,.nil,.nil,.nil,.nil]]) (fun s=>s.1≤m.p.length) (fun s=>m.p.length-s.1) (0,noLoc) ?_
 conv=>whnf
 refine ⟨(qid_ 2 noLoc rfl).trans (by (refine qc_ [some 0,none,some 2,some 3,some 4,some 5] rfl rfl ?_ ?_<;>(repeat' first|exact True.intro|exact rfl|exact .inl rfl|exact .inr rfl|refine And.intro ?_ ?_|fail))),Nat.zero_le _,fun s hs=>?_⟩
 obtain ⟨k,Q⟩:=s
 dsimp only at hs
 have hlt:decide ((k:Int)<(m.p.length:Int))=true→k<m.p.length:=fun h=>by
  have h:=of_decide_eq_true h
  omega
 conv=>whnf
 repeat' first|(refine fun (b:Bool) hb=>?_;cases b<;>first|exact absurd hb (by decide)|exact nfl hb|exact nfr hb|skip)|refine ⟨_,rfl,?_,rfl,?_⟩|fail
 rotate_left
 ·exact hlt (by assumption)
 ·have hk2:k<m.p.length:=hlt (by assumption)
  refine qc8_ ?_
  conv=>whnf
  repeat' first|exact True.intro|refine ⟨_,⟨rfl,rfl⟩,?_⟩|refine And.intro (a:=chkPast _ _ _ _ _ _ _ _) ?_ ?_|fail
  apply Exists.intro
  apply Exists.intro
  apply And.intro
  ·conv=>whnf
   refine ⟨m.p[k].got,rfl,rfl,(hz.go _ (List.getElem_mem hk2)).1,?_⟩
   exact ⟨rfl,rfl⟩
  conv=>whnf
  repeat' first|exact True.intro|refine ⟨_,⟨rfl,rfl⟩,?_⟩|refine And.intro (a:=chkPend _ _ _ _ _ _) ?_ ?_|refine And.intro (a:=chkPast _ _ _ _ _ _ _ _) ?_ ?_|refine ⟨⟨rfl,rfl⟩,?_⟩|fail
  conv=>whnf
  apply Exists.intro
  apply Exists.intro
  apply And.intro
  ·conv=>whnf
   refine ⟨m.p[k].out,rfl,rfl,(hz.go _ (List.getElem_mem hk2)).2,?_⟩
   exact ⟨rfl,rfl⟩
  conv=>whnf
  repeat' first|exact True.intro|refine ⟨_,⟨rfl,rfl⟩,?_⟩|refine ⟨_,_,⟨rfl,rfl⟩,?_⟩|refine And.intro (a:=chkPend _ _ _ _ _ _) ?_ ?_|fail
  conv=>whnf
  refine qg0_ 6 2 7 8 k rfl rfl rfl rfl (by decide) (by rw [wf_,List.length_take];show 2*min k _=_;omega) fun Q' o1 n1 c1 o2 n2 c2 hQ' hq1 hq2=>?_
  conv=>whnf
  repeat' first|refine And.intro (a:=I64 _) ?_ ?_|refine And.intro (a:=_≤140737488355328) ?_ ?_|refine ⟨rfl,?_⟩|fail
  ·show ((procEls Q (m.p.take k)).length+1)*64≤_
   have:=hz.p
   rw [qr_,List.length_take];omega
  ·have hM:m.p.length≤MAXL:=by assumption
   show I64 ((k:Int)+1)
   unfold MAXL at hM;unfold I64;omega
  conv=>whnf
  refine ⟨(k+1,Q'),?_,hk2,by show m.p.length-(k+1)<m.p.length-k;omega⟩
  have e1:procEls Q' (m.p.take (k+1))=procEls Q (m.p.take k)++[.agg [.raw (.slice o1 n1 c1),.int .i64 m.p[k].pos,.raw (.slice o2 n2 c2),.bool m.p[k].read,.bool m.p[k].over]]:=by
   have hl:(m.p.take k).length=k:=by rw [List.length_take];omega
   rw [List.take_succ_eq_append_getElem hk2,wq_,hl,qcq_ (Q:=Q) (Q':=Q') (by rw [hl];exact hQ')]
   unfold procEl
   rw [hq1,hq2]
  have hsb:=qe4_ hk2
  show Wk _ _ _ _ [.row 4 (m.pipes.map pipeV),.row 5 (procEls Q' (m.p.take (k+1))),.pack Q' (subsOf (m.p.take (k+1))),.box [.sl nodeV m.g,.sl fileV m.f,.own 0,.own 1,.sl byteV m.sunk],.box (machV m).cells,.box [.nil,.nil,.nil,.nil,.nil]]
  rw [e1,←hsb]
  exact (by (refine qc_ [some 0,some 10,some 2,some 3,some 4,some 5] rfl rfl ?_ ?_<;>(repeat' first|exact True.intro|exact rfl|exact .inl rfl|exact .inr rfl|refine And.intro ?_ ?_|fail)))
 have hkl:k=m.p.length:=by
  have h:=of_decide_eq_false (by assumption:decide ((k:Int)<(m.p.length:Int))=false)
  omega
 subst hkl
 have hfin:=hK Q [.box [.sl nodeV m.g,.sl fileV m.f,.own 0,.own 1,.sl byteV m.sunk],.box (machV m).cells,.box [.sl nodeV m.g,.sl fileV m.f,.own 0,.own 1,.sl byteV m.sunk]]
 have e2:m.p.take m.p.length=m.p:=List.take_length
 rw [←e2] at hfin
 conv=>whnf
 exact hfin
end Gv
namespace Gv
variable [Glob] [Laid]
def pipeRead (p:PipeS) (most:Int):PipeS × List UInt8 × Int :=
 if pipeCheck p≠0 then (noPipe,[],pipeCheck p) else if most<0∨4000<most then (noPipe,[],3) else
  ({p with b:=p.b.drop (min most p.b.length).toNat},p.b.take (min most p.b.length).toNat,0)
theorem qt6_:callable Tryz.prog 164=true:=by kernel_rfl
def read_S:Spec:=fun args K=>∃ p n,args=[pipeV p,.int .i64 n]∧K (.tup [pipeV (pipeRead p n).1,.sl byteV (pipeRead p n).2.1,.int .i64 (pipeRead p n).2.2])
noncomputable def read_lib:List (Nat × Spec):=[(21,check_S),(66,cloneB_S),(214,concatB_S)]
noncomputable def read_fns:List (Nat × FnI):=[(213,{fn:=Tryz.f213,hooks:=[],draws:=[(5,[0,0,2,6,14,0,32,96,224,480,1022,2047,4095]),(7,[0,0,2,6,14,0,0,96,254,510,1023,2047,4095])]})]
noncomputable def read_prims:List (Nat × PSpec):=[]
theorem qus_:EnvOK ⟨Tryz.prog,tys,read_lib,read_fns,read_prims,[]⟩:=qf_ mixed0 tys0 (.cons vh_ vo_ (.cons zi_ ze_ (.cons zw_ z0_ .nil))) (.cons (by kernel_rfl) ⟨Tryz.func213,by kernel_rfl,by kernel_rfl⟩ .nil) .nil rfl
theorem qse_:Pure Tryz.prog 164 read_S:=by
 refine qe_ qus_ 6 (fi:={fn:=Tryz.f164,hooks:=[],draws:=[]}) ⟨Tryz.func164,by kernel_rfl,by kernel_rfl⟩ ?_
 rintro _ K ⟨p,n,rfl,hK⟩
 replace hK:∀ r,r=.tup [pipeV (pipeRead p n).1,.sl byteV (pipeRead p n).2.1,.int .i64 (pipeRead p n).2.2]→K r:=fun r h=>h ▸ hK
 refine ⟨p,rfl,?_⟩
 repeat' first|(refine fun (b:Bool) hb=>?_;cases b<;>first|exact absurd hb (by decide)|exact nfl hb|exact nfr hb|skip)|(refine fun (hl:_≤MAXL)=>?_)|refine ⟨(fun _=>rfl),?_⟩|refine ⟨UInt8,byteV,?_⟩|fail
 ·have hc:pipeCheck p=0:=by grind
  have hs:=q9_ hc
  have hn:0≤n:=by grind
  refine ⟨(min n p.b.length).toNat,by omega,by omega,?_⟩
  refine ⟨_,rfl,by simp;omega,?_⟩
  refine ⟨fun _=>rfl,?_⟩
  refine ⟨(min n p.b.length).toNat,by omega,by omega,?_⟩
  refine ⟨_,rfl,by simp;omega,?_⟩
  refine hK _ ?_
  grind [pipeRead,pipeV]
 all_goals (refine hK _ ?_;grind [pipeRead,noPipe,pipeV])
end Gv
namespace Gv
variable [Glob] [Laid]
theorem qm6_:callable Tryz.prog 79=true:=by kernel_rfl
def placeF_S:Spec:=fun args K=>∃ (l:List FileS) (n:Bs),args=[.sl fileV l,.str n]∧K (.tup [.int .i64 (placeI l n:Nat),.bool (isAt l n)])
noncomputable def placeF_lib:List (Nat × Spec):=[]
noncomputable def placeF_fns:List (Nat × FnI):=[(136,{fn:=Tryz.f136,hooks:=[],draws:=[]}),(137,{fn:=Tryz.f137,hooks:=[],draws:=[]})]
noncomputable def placeF_prims:List (Nat × PSpec):=[]
theorem qo3_:EnvOK ⟨Tryz.prog,tys,placeF_lib,placeF_fns,placeF_prims,[]⟩:=qf_ mixed0 tys0 .nil (.cons (by kernel_rfl) ⟨Tryz.func136,by kernel_rfl,by kernel_rfl⟩ (.cons (by kernel_rfl) ⟨Tryz.func137,by kernel_rfl,by kernel_rfl⟩ .nil)) .nil rfl
theorem qk8_:Pure Tryz.prog 79 placeF_S:=by
 refine qe_ qo3_ 6 (fi:={fn:=Tryz.f79,hooks:=[],draws:=[(4,[0,0,0,6,14,30,0,126,1,511])]}) ⟨Tryz.func79,by kernel_rfl,by kernel_rfl⟩ ?_
 rintro _ K ⟨l,n,rfl,hK⟩
 replace hK:∀ r,r=.tup [.int .i64 (placeI l n:Nat),.bool (isAt l n)]→K r:=fun r h=>h ▸ hK
 repeat' first|(refine fun (hl:_≤MAXL)=>?_)|fail
 conv=>whnf
 refine qb_ [0,1,7] (σ:=Nat) (fun i=>[(8,.int .i64 i)]) (fun i=>[.box [.str n]]) (fun i=>i≤l.length∧∀ j (h:j<l.length),j<i→notLess n l[j]=false) (fun i=>l.length-i) 0 ?_
 conv=>whnf
 refine ⟨(by (refine qa_ ?_;refine Sel4.mk rfl rfl ?_ ?_<;>(repeat' first|exact True.intro|exact rfl|exact .inl rfl|exact .inr rfl|refine And.intro ?_ ?_|fail))),⟨Nat.zero_le _,fun j h h'=>by omega⟩,fun i hi=>?_⟩
 obtain ⟨hi,hn⟩:=hi
 repeat' first|exact True.intro|(refine fun (b:Bool) hb=>?_;cases b<;>first|exact absurd hb (by decide)|exact nfl hb|exact nfr hb|skip)|(refine fun (hl:_≤MAXL)=>?_)|refine And.intro (a:=I64 _) ?_ ?_|refine ⟨_,⟨rfl,rfl⟩,?_⟩|refine And.intro (a:=chkPast _ _ _ _ _ _ _ _) ?_ ?_|refine ⟨_,⟨_,rfl,?_,rfl,rfl,rfl⟩,?_⟩|refine ⟨_,rfl,?_,rfl,?_⟩|fail
 ·have hge:¬ (i:Int)<(l.length:Int):=of_decide_eq_false (by assumption)
  have ei:i=l.length:=by omega
  have hp:placeI l n=l.length:=qm7_ fun j hj=>hn j hj (by omega)
  skip
  refine hK _ ?_
  unfold isAt
  rw [hp,List.getElem?_eq_none (Nat.le_refl _)]
 ·have h:=of_decide_eq_true (by assumption:decide ((i:Int)<(l.length:Int))=true)
  show i<l.length
  omega
 ·have hl0:l.length≤MAXL:=by assumption
  unfold MAXL at hl0
  have h:=of_decide_eq_true (by assumption:decide ((i:Int)<(l.length:Int))=true)
  unfold I64;omega
 ·have hlt:i<l.length := by
   have h:=of_decide_eq_true (by assumption:decide ((i:Int)<(l.length:Int))=true)
   omega
  have hx:notLess n l[i]=false:=by assumption
  refine ⟨i+1,(by (refine qa_ ?_;refine Sel4.mk rfl rfl ?_ ?_<;>(repeat' first|exact True.intro|exact rfl|exact .inl rfl|exact .inr rfl|refine And.intro ?_ ?_|fail))),⟨hlt,fun j hj hj2=>?_⟩,by omega⟩
  rcases Nat.lt_or_ge j i with h|h
  ·exact hn j hj h
  ·have:j=i:=by omega
   subst this
   exact hx
 ·have h:=of_decide_eq_true (by assumption:decide ((i:Int)<(l.length:Int))=true)
  show i<l.length
  omega
 ·have hlt:i<l.length := by
   have h:=of_decide_eq_true (by assumption:decide ((i:Int)<(l.length:Int))=true)
   omega
  have hx:notLess n l[i]=true:=by assumption
  have hp:placeI l n=i:=qrd_ hlt hx hn
  skip
  refine hK _ ?_
  unfold isAt
  rw [hp,List.getElem?_eq_getElem hlt]
end Gv
namespace Gv
variable [Glob] [Laid]
theorem qng_:callable Tryz.prog 77=true:=by kernel_rfl
def bytesF_S:Spec:=fun args K=>∃ (l:List FileS) (n:Bs),args=[.sl fileV l,.str n]∧(∀ f∈l,f.b.length≤1000000000)∧K (.sl byteV (fileAt l n))
noncomputable def bytesF_lib:List (Nat × Spec):=[(79,placeF_S),(66,cloneB_S)]
noncomputable def bytesF_fns:List (Nat × FnI):=[]
noncomputable def bytesF_prims:List (Nat × PSpec):=[]
theorem qpk_:EnvOK ⟨Tryz.prog,tys,bytesF_lib,bytesF_fns,bytesF_prims,[]⟩:=qf_ mixed0 tys0 (.cons qm6_ qk8_ (.cons zi_ ze_ .nil)) .nil .nil rfl
theorem ql6_:Pure Tryz.prog 77 bytesF_S:=by
 refine qe_ qpk_ 6 (fi:={fn:=Tryz.f77,hooks:=[],draws:=[]}) ⟨Tryz.func77,by kernel_rfl,by kernel_rfl⟩ ?_
 rintro _ K ⟨l,n,rfl,hfb,hK⟩
 replace hK:∀ r,r=.sl byteV (fileAt l n)→K r:=fun r h=>h ▸ hK
 refine ⟨l,n,rfl,?_⟩
 obtain ⟨q,hq⟩:∃ q,isAt l n=q:=⟨_,rfl⟩
 rw [hq]
 cases q
 ·repeat' first|(refine fun (b:Bool) hb=>?_;cases b<;>first|exact absurd hb (by decide)|exact nfl hb|exact nfr hb|skip)|fail
  refine ⟨UInt8,byteV,?_⟩
  refine hK _ ?_
  unfold isAt at hq
  unfold fileAt
  cases h:l[placeI l n]? with
  | none=>rfl
  | some f =>
   rw [h] at hq
   have:¬ f.name=n:=of_decide_eq_false hq
   simp [this]
 ·have hx:∃ h:placeI l n<l.length, l[placeI l n].name=n := by
   unfold isAt at hq
   cases h:l[placeI l n]? with
   | none=>rw [h] at hq;cases hq
   | some f =>
    rw [h] at hq
    obtain ⟨h1,h2⟩:=List.getElem?_eq_some_iff.1 h
    exact ⟨h1,by rw [h2];exact of_decide_eq_true hq⟩
  obtain ⟨hlt,hn⟩:=hx
  have hf:fileAt l n=l[placeI l n].b:=by
   unfold fileAt
   rw [List.getElem?_eq_getElem hlt]
   simp [hn]
  rw [hf] at hK
  repeat' first|(refine fun (b:Bool) hb=>?_;cases b<;>first|exact absurd hb (by decide)|exact nfl hb|exact nfr hb|skip)|refine ⟨_,rfl,?_,rfl,?_⟩|fail
  ·exact hlt
  refine ⟨l[placeI l n].b,rfl,hfb _ (List.getElem_mem hlt),?_⟩
  skip
  exact hK _ rfl
end Gv
namespace Gv
variable [Glob] [Laid]
end Gv
namespace Gv
variable [Glob] [Laid]
theorem qm4_:callable Tryz.prog 237=true:=by kernel_rfl
def index1_S:Spec:=fun args K=>∃ (l:List UInt8),args=[.sl byteV l,.sl byteV [10]]∧K (.int .i64 (idxB l 10))
theorem qoj_:Pure Tryz.prog 237 index1_S:=by
 refine qen_ fun w m args us K hm hg hl hv hT=>?_
 obtain ⟨l,rfl,hK⟩:=hT
 obtain ⟨a,b,rfl,ha,hb⟩:=args2 hl hv
 obtain ⟨p,c,rfl,hp,hlc,hc,hx⟩:=yg_ ha hm
 obtain ⟨p2,c2,rfl,hp2,hlc2,hc2,hx2⟩:=yg_ hb hm
 refine ⟨_,_,hK,.int,?_⟩
 match p2,hp2,hx2 with
 | none,hp2,_=>exact absurd (hp2 rfl).1 (by simp)
 | some ⟨b2,o2,sp2⟩,_,hx2 =>
  obtain ⟨h1,h2⟩:=hx2 b2 o2 sp2 rfl
  have hs:sp2=none:=h1.resolve_right (by simp)
  subst hs
  have h3:=h2 0 (by simp)
  have h4:w.cell? ⟨b2,o2,none⟩=some (.int .u8 10):=by simpa [Addr.add,numsOf] using h3
  match p,hp,hx with
  | none,hp,_ =>
   obtain ⟨rfl,rfl⟩:=hp rfl
   exact (Tryz.bytes_Index_one_nil b2 o2 c2 10 w h4).mono fun e w' ⟨he,hw⟩=>⟨by rw [he];rfl,by subst hw;exact Bel.refl _ _⟩
  | some ⟨b1,o1,sp1⟩,_,hx =>
   refine (Tryz.bytes_Index_one_at ⟨b1,o1,sp1⟩ l.length c b2 o2 c2 (numsOf l) 10 w (vl_ l) (fun i hi=>(hx b1 o1 sp1 rfl).2 i hi) h4).mono fun e w' ⟨he,hw⟩=>⟨by rw [he,wn_];rfl,by subst hw;exact Bel.refl _ _⟩
end Gv
namespace Gv
variable [Glob] [Laid]
theorem qsr_ (l:Bs):(cutNl l).2.2=decide (0≤idxB l 10)∧(0≤idxB l 10→idxB l 10+1≤l.length∧(cutNl l).1=l.take (idxB l 10).toNat∧(cutNl l).2.1=l.drop ((idxB l 10).toNat+1))∧(idxB l 10<0→cutNl l=(l,[],false)):=by
 unfold idxB
 rcases w4_ l with h|⟨a,r,rfl,ha⟩
 ·have e:Lib.indexByte l 10=-1 := by
   induction l with
   | nil=>rfl
   | cons c l ih =>
    simp only [List.mem_cons,not_or] at h
    unfold Lib.indexByte
    rw [if_neg (by simpa using fun e=>h.1 (e.symm)),ih h.2]
    rfl
  rw [e,qdk_ h]
  refine ⟨rfl,fun h=>by omega,fun _=>rfl⟩
 ·have e:Lib.indexByte (a++10::r) 10=a.length := by
   induction a with
   | nil=>rfl
   | cons c a ih =>
    simp only [List.mem_cons,not_or] at ha
    show Lib.indexByte (c::(a++10::r)) 10=_
    unfold Lib.indexByte
    rw [if_neg (by simpa using fun e=>ha.1 (e.symm)),ih ha.2,if_neg (by simp<;>omega)]
    simp
  rw [e,qdp_ ha]
  refine ⟨by simp,fun _=>⟨by simp<;>omega,by simp,?_⟩,fun h=>by omega⟩
  rw [Int.toNat_natCast,show a.length+1=(a++[10]).length by simp,show a++10::r=(a++[10])++r by simp,List.drop_left]
theorem qu2_:callable Tryz.prog 204=true:=by kernel_rfl
def cut_S:Spec:=fun args K=>∃ (l:List UInt8),args=[.sl byteV l,.sl byteV [10]]∧l.length≤1000000000∧K (.tup [.sl byteV (cutNl l).1,.sl byteV (cutNl l).2.1,.bool (cutNl l).2.2])
noncomputable def cut_lib:List (Nat × Spec):=[(237,index1_S)]
noncomputable def cut_fns:List (Nat × FnI):=[]
noncomputable def cut_prims:List (Nat × PSpec):=[]
theorem cut_E:EnvOK ⟨Tryz.prog,tys,cut_lib,cut_fns,cut_prims,[]⟩:=qf_ mixed0 tys0 (.cons qm4_ qoj_ .nil) .nil .nil rfl
theorem qur_:Pure Tryz.prog 204 cut_S:=by
 refine qe_ cut_E 6 (fi:={fn:=Tryz.f204,hooks:=[],draws:=[(3,[0,0,3,0,0,0,32,112,248,7,1023,2047])]}) ⟨Tryz.func204,by kernel_rfl,by kernel_rfl⟩ ?_
 rintro _ K ⟨l,rfl,hz,hK⟩
 replace hK:∀ r,r=.tup [.sl byteV (cutNl l).1,.sl byteV (cutNl l).2.1,.bool (cutNl l).2.2]→K r:=fun r h=>h ▸ hK
 obtain ⟨h1,h2,h3⟩:=qsr_ l
 refine ⟨l,rfl,?_⟩
 repeat' first|(refine fun (b:Bool) hb=>?_;cases b<;>first|exact absurd hb (by decide)|exact nfl hb|exact nfr hb|skip)|refine ⟨_,⟨rfl,rfl⟩,?_⟩|refine ⟨UInt8,byteV,?_⟩|fail
 ·refine hK _ ?_
  rw [h3 (by grind)]
 have hi:0≤idxB l 10:=by grind
 obtain ⟨g1,g2,g3⟩:=h2 hi
 refine ⟨_,⟨fun _=>rfl,(idxB l 10).toNat,by omega,by omega,rfl,rfl⟩,?_⟩
 repeat' first|refine ⟨_,⟨rfl,rfl⟩,?_⟩|refine ⟨_,And.intro (a:=I64 _) ?_ ⟨rfl,rfl⟩,?_⟩|refine ⟨_,(fun _=>⟨rfl,rfl⟩),?_⟩|fail
 ·simp only [List.length_cons,List.length_nil]
  unfold I64
  omega
 refine ⟨_,⟨fun _=>rfl,(idxB l 10).toNat+1,?_,by omega,rfl,rfl⟩,?_⟩
 ·simp only [List.length_cons,List.length_nil]
  omega
 repeat' first|refine ⟨_,⟨rfl,rfl⟩,?_⟩|fail
 refine hK _ ?_
 rw [g2,g3,h1,decide_eq_true hi]
end Gv
namespace Gv
variable [Glob] [Laid]
theorem of_ca:callable Tryz.prog 151=true:=by kernel_rfl
def of_S:Spec:=fun args K=>∃ (b:Bs),args=[.sl byteV b]∧b.length≤1000000000∧K (.sl strV (linesOf b))
noncomputable def of_lib:List (Nat × Spec):=[(204,cut_S)]
noncomputable def of_fns:List (Nat × FnI):=[]
noncomputable def of_prims:List (Nat × PSpec):=[]
theorem of_E:EnvOK ⟨Tryz.prog,tys,of_lib,of_fns,of_prims,[]⟩:=qf_ mixed0 tys0 (.cons qu2_ qur_ .nil) .nil .nil rfl
theorem of_ok:Pure Tryz.prog 151 of_S:=by
 refine qe_ of_E 6 (fi:={fn:=Tryz.f151,hooks:=[],draws:=[]}) ⟨Tryz.func151,by kernel_rfl,by kernel_rfl⟩ ?_
 rintro _ K ⟨b0,rfl,hz,hK⟩
 conv=>whnf
 refine qb_ [] (σ:=List Bs × Bs) (fun s=>[(3,.own 0),(0,.sl byteV s.2)]) (fun s=>[.row 1 (s.1.map strV)]) (fun s=>s.1++linesOf s.2=linesOf b0∧s.2.length+s.1.length≤1000000000) (fun s=>s.2.length) ([],b0) ?_
 conv=>whnf
 refine ⟨(by (refine qc_ [none] rfl rfl ?_ ?_<;>(repeat' first|exact True.intro|exact rfl|exact .inl rfl|exact .inr rfl|refine And.intro ?_ ?_|fail))),⟨rfl,hz⟩,fun s hs=>?_⟩
 obtain ⟨l,b⟩:=s
 obtain ⟨h1,h2⟩:=hs
 replace h1:l++linesOf b=linesOf b0:=h1
 replace h2:b.length+l.length≤1000000000:=h2
 repeat' first|refine ⟨_,_,_,LeL.refl _,?_⟩|(refine fun (b:Bool) hb=>?_;cases b<;>first|exact absurd hb (by decide)|exact nfl hb|exact nfr hb|skip)|(refine fun (hl:_≤MAXL)=>?_)|fail
 ·have:b=[] := by
   have h:decide (0<(b.length:Int))=false:=by assumption
   cases b with
   | nil=>rfl
   | cons c b=>simp at h<;>omega
  subst this
  rw [qav_,List.append_nil] at h1
  rw [h1]
  exact hK
 have hb0:b≠[]:=by
  intro e
  subst e
  have h:decide ((0:Int)<(([]:Bs).length:Int))=true:=by assumption
  simp at h
 have g1:=qhc_ hb0
 have g2:=qsm_ hb0
 refine ⟨UInt8,byteV,[10],LeL.refl _,?_⟩
 refine ⟨b,rfl,by omega,?_⟩
 repeat' first|refine And.intro (a:=_≤140737488355328) ?_ ?_|refine ⟨_,(fun _=>rfl),rfl,?_⟩|refine ⟨rfl,?_⟩|fail
 ·simp only [List.length_map,List.length_cons,List.length_nil]
  have:=List.length_pos_iff.2 hb0
  omega
 ·refine ⟨(l++[(cutNl b).1],(cutNl b).2.1),?_,⟨?_,?_⟩,g2.1⟩
  ·refine qc_ [some 3] rfl rfl ⟨?_,trivial⟩ ?_
   ·rw [List.map_append]
    exact rfl
   ·(repeat' first|exact True.intro|exact rfl|exact .inl rfl|exact .inr rfl|refine And.intro ?_ ?_|fail)
  ·rw [←h1,g1,List.append_assoc]
   rfl
  ·simp only [List.length_append,List.length_cons,List.length_nil]
   omega
end Gv
namespace Gv
variable [Glob] [Laid]
theorem qfo_:callable Tryz.prog 90=true:=by kernel_rfl
def linesL_S:Spec:=fun args K=>∃ (b:Bs),args=[.sl byteV b]∧b.length≤1000000000∧K (.sl strV (linesOf b))
noncomputable def linesL_lib:List (Nat × Spec):=[(151,of_S)]
noncomputable def linesL_fns:List (Nat × FnI):=[]
noncomputable def linesL_prims:List (Nat × PSpec):=[]
theorem qp7_:EnvOK ⟨Tryz.prog,tys,linesL_lib,linesL_fns,linesL_prims,[]⟩:=qf_ mixed0 tys0 (.cons of_ca of_ok .nil) .nil .nil rfl
theorem qfm_:Pure Tryz.prog 90 linesL_S:=by
 refine qe_ qp7_ 6 (fi:={fn:=Tryz.f90,hooks:=[],draws:=[]}) ⟨Tryz.func90,by kernel_rfl,by kernel_rfl⟩ ?_
 rintro _ K ⟨b,rfl,hz,hK⟩
 replace hK:∀ r,r=.sl strV (linesOf b)→K r:=fun r h=>h ▸ hK
 skip
 refine ⟨b,rfl,hz,?_⟩
 skip
 exact hK _ rfl
end Gv
namespace Gv
variable [Glob] [Laid]
theorem ql5_:callable Tryz.prog 93=true:=by kernel_rfl
def put_S:Spec:=fun args K=>∃ l:List Bs,args=[.sl strV l]∧(put l).length≤1000000000∧K (.sl byteV (put l))
noncomputable def put_lib:List (Nat × Spec):=[]
noncomputable def put_fns:List (Nat × FnI):=[]
noncomputable def put_prims:List (Nat × PSpec):=[]
theorem put_E:EnvOK ⟨Tryz.prog,tys,put_lib,put_fns,put_prims,[]⟩:=qf_ mixed0 tys0 .nil .nil .nil rfl
theorem ql7_:Pure Tryz.prog 93 put_S:=by
 refine qe_ put_E 6 (fi:={fn:=Tryz.f93,hooks:=[],draws:=[]}) ⟨Tryz.func93,by kernel_rfl,by kernel_rfl⟩ ?_
 rintro _ K ⟨l,rfl,hb,hK⟩
 refine fun (hl:_≤MAXL)=>?_
 conv=>whnf
 refine qb_ [6,7] (σ:=Nat) (fun i=>[(3,.own 0),(8,.int .i64 i)]) (fun i=>[.row 1 ((put (l.take i)).map byteV)]) (fun i=>i≤l.length) (fun i=>l.length-i) 0 ?_
 conv=>whnf
 refine ⟨(by (refine qc_ [none] rfl rfl ?_ ?_<;>(repeat' first|exact True.intro|exact rfl|exact .inl rfl|exact .inr rfl|refine And.intro ?_ ?_|fail))),Nat.zero_le _,fun i hi=>?_⟩
 have h1:=yv_ l i
 have h2:=yv_ l (i+1)
 repeat' first|refine ⟨_,_,_,LeL.refl _,?_⟩|(refine fun (b:Bool) hb=>?_;cases b<;>first|exact absurd hb (by decide)|exact nfl hb|exact nfr hb|skip)|refine And.intro (a:=I64 _) ?_ ?_|refine And.intro (a:=_≤140737488355328) ?_ ?_|refine ⟨_,rfl,?_,rfl,?_⟩|refine ⟨rfl,?_⟩|fail
 ·rw [List.take_of_length_le (by grind)]
  exact hK
 ·grind
 ·rw [xk_ (by grind)] at h2
  simp only [List.length_append,List.length_map,List.length_cons,List.length_nil,Nat.mul_one] at *
  omega
 ·rw [xk_ (by grind)] at h2
  simp only [List.length_append,List.length_map,List.length_cons,List.length_nil,Nat.mul_one] at *
  omega
 ·(first|omega|(unfold I64;omega)|(simp only [List.length_append,List.length_map,List.length_cons,List.length_nil,Nat.mul_one,Int.ofNat_eq_natCast] at *;omega)|(dsimp only at *;omega)|(unfold I64;dsimp only at *;omega)|(unfold I64;grind)|grind)
 ·refine ⟨i+1,?_,by grind,by grind⟩
  refine qc_ [some 3] rfl rfl ⟨?_,trivial⟩ ?_
  ·rw [xk_ (by grind),List.map_append,List.map_append,←List.append_assoc]
   exact rfl
  ·(repeat' first|exact True.intro|exact rfl|exact .inl rfl|exact .inr rfl|refine And.intro ?_ ?_|fail)
end Gv
namespace Gv
variable [Glob] [Laid]
theorem qpd_ (l:List Bs) (n k:Nat):(put (part l n k)).length≤(put l).length:=by
 have h1:=yv_ l ((k+1)*l.length / n)
 have h2:=congrArg (fun a=>(put a).length) (List.take_append_drop (k*l.length / n) (l.take ((k+1)*l.length / n)))
 simp only [zz_,List.length_append] at h2
 unfold Gp.part
 omega
theorem qa8_ {a b c:Nat} (h:a*b≤c):(a:Int)*(b:Int)≤(c:Int):=by
 rw [←Int.natCast_mul]
 omega
theorem qil_ (k m n:Nat):((k:Int)*(m:Int)) / (n:Int)=((k*m / n:Nat):Int):=by
 rw [←Int.natCast_mul,←Int.natCast_ediv]
theorem qc9_:callable Tryz.prog 129=true:=by kernel_rfl
def splitLines_S:Spec:=fun args K=>∃ (l:List Bs) (n:Nat),args=[.sl strV l,.int .i64 n]∧(1≤n∧n≤1000∧(put l).length≤1000000000)∧K (.sl blV (splitLines l n))
noncomputable def splitLines_lib:List (Nat × Spec):=[(93,put_S)]
noncomputable def splitLines_fns:List (Nat × FnI):=[]
noncomputable def splitLines_prims:List (Nat × PSpec):=[]
theorem qfg_:EnvOK ⟨Tryz.prog,tys,splitLines_lib,splitLines_fns,splitLines_prims,[]⟩:=qf_ mixed0 tys0 (.cons ql5_ ql7_ .nil) .nil .nil rfl
theorem qdo_:Pure Tryz.prog 129 splitLines_S:=by
 refine qe_ qfg_ 6 (fi:={fn:=Tryz.f129,hooks:=[],draws:=[(5,[0,0,0,0,8,28,0,124,0,256,0,1024,3840,0,16128,32766,65534,131070,262143,524287])]}) ⟨Tryz.func129,by kernel_rfl,by kernel_rfl⟩ ?_
 rintro _ K ⟨l,n,rfl,⟨hn1,hn2,hz⟩,hK⟩
 conv=>whnf
 have hl1:=vx_ (l:=l) (n:=1000000000) hz
 refine qb_ [0,1,7] (σ:=Nat) (fun k=>[(5,.own 0),(8,.int .i64 k)]) (fun k=>[.row 1 (((splitLines l n).take k).map blV)]) (fun k=>k≤n) (fun k=>n-k) 0 ?_
 conv=>whnf
 refine ⟨(by (refine qc_ [none] rfl rfl ?_ ?_<;>(repeat' first|exact True.intro|exact rfl|exact .inl rfl|exact .inr rfl|refine And.intro ?_ ?_|fail))),Nat.zero_le _,fun k hk=>?_⟩
 have hsl:(splitLines l n).length=n:=by simp [splitLines]
 have hml:k*l.length≤1000000000000:=Nat.mul_le_mul (show k≤1000 by omega) hl1
 have hml2:(k+1)*l.length≤1001000000000:=Nat.mul_le_mul (show k+1≤1001 by omega) hl1
 have hml3:=qa8_ hml
 have hml4:((k:Int)+1)*(l.length:Int)≤((1001000000000:Nat):Int):=qa8_ hml2
 have hml5:0≤(k:Int)*l.length:=Int.mul_nonneg (by omega) (by omega)
 have hml6:0≤((k:Int)+1)*l.length:=Int.mul_nonneg (by omega) (by omega)
 have hbd:=qc7_ l.length n k (by omega)
 have hpp:=qpd_ l n k
 repeat' first|refine ⟨_,_,_,LeL.refl _,?_⟩|(refine fun (b:Bool) hb=>?_;cases b<;>first|exact absurd hb (by decide)|exact nfl hb|exact nfr hb|skip)|refine ⟨_,⟨rfl,rfl⟩,?_⟩|refine ⟨_,And.intro (a:=I64 _) ?_ ⟨rfl,rfl⟩,?_⟩|refine ⟨_,(fun _=>⟨rfl,rfl⟩),?_⟩|fail
 ·rw [List.take_of_length_le (by grind)]
  exact hK
 ·exact ⟨by omega,by omega⟩
 refine ⟨_,⟨⟨hml5,by omega,by omega⟩,rfl,rfl⟩,?_⟩
 repeat' first|refine ⟨_,⟨rfl,rfl⟩,?_⟩|refine ⟨_,And.intro (a:=I64 _) ?_ ⟨rfl,rfl⟩,?_⟩|refine ⟨_,(fun _=>⟨rfl,rfl⟩),?_⟩|fail
 ·exact ⟨by omega,by omega⟩
 ·exact ⟨by omega,by omega⟩
 refine ⟨_,⟨⟨hml6,by omega,by omega⟩,rfl,rfl⟩,?_⟩
 refine ⟨_,⟨fun _=>rfl,k*l.length / n,(k+1)*l.length / n,qil_ _ _ _,qil_ (k+1) _ _,Nat.le_trans (Nat.le_add_right _ _) hbd.1,?_,rfl,rfl⟩,?_⟩
 ·exact Nat.div_le_of_le_mul (Nat.mul_le_mul_right _ (by grind))
 refine ⟨_,⟨Gp.part l n k,rfl,by omega,rfl,rfl⟩,?_⟩
 refine ⟨_,⟨Bs,blV,[put (Gp.part l n k)],LeL.refl _,rfl,rfl⟩,?_⟩
 skip
 refine ⟨_,_,⟨fun _=>rfl,?_,rfl,rfl⟩,?_⟩
 ·simp only [List.length_map,List.length_take,List.length_cons,List.length_nil,elsOf]
  omega
 repeat' first|exact True.intro|refine And.intro (a:=I64 _) ?_ ?_|refine ⟨_,⟨rfl,rfl⟩,?_⟩|refine And.intro (a:=chkPend _ _ _ _ _ _) ?_ ?_|fail
 ·(first|omega|(unfold I64;omega)|(simp only [List.length_append,List.length_map,List.length_cons,List.length_nil,Nat.mul_one,Int.ofNat_eq_natCast] at *;omega)|(dsimp only at *;omega)|(unfold I64;dsimp only at *;omega)|(unfold I64;grind)|grind)
 ·have hk2:k<n:=by grind
  refine ⟨k+1,?_,by omega,by omega⟩
  refine qc_ [some 1] rfl rfl ⟨?_,trivial⟩ ?_
  ·rw [List.take_succ_eq_append_getElem (by omega),List.map_append]
   have:(splitLines l n)[k]'(by omega)=put (Gp.part l n k):=by simp [splitLines]
   rw [this]
   exact rfl
  ·(repeat' first|exact True.intro|exact rfl|exact .inl rfl|exact .inr rfl|refine And.intro ?_ ?_|fail)
end Gv
namespace Gv
variable [Glob] [Laid]
theorem wp_:callable Tryz.prog 147=true:=by kernel_rfl
def containsS_S:Spec:=fun args K=>∃ (s sub:Bs),args=[.str s,.str sub]∧s.length<4294967281∧K (.bool (Lib.contains s sub))
theorem wo_:Pure Tryz.prog 147 containsS_S:=by
 intro w m args us K hm hg hv hT
 obtain ⟨s,sub,rfl,h1,hK⟩:=hT
 obtain ⟨a,b,rfl,ha,hb⟩:=args2 hv.1 hv.2
 obtain ⟨rfl,-⟩:=z1_ ha
 obtain ⟨rfl,-⟩:=z1_ hb
 obtain ⟨n,hn⟩:=Laid.maxlen w (fun b o e=>hm b o (hg b o e))
 refine (Tryz.strings_Contains (ba s) (ba sub) n w (by rw [za_];exact h1) hn).mono fun e w' ⟨he,hw⟩=>?_
 subst hw
 exact ⟨_,_,he,Bel.refl _ _,hK,.bool⟩
end Gv
namespace Gv
variable [Glob] [Laid]
theorem qgr_:callable Tryz.prog 206=true:=by kernel_rfl
def replaceS_S:Spec:=fun args K=>∃ (s old new:Bs),args=[.str s,.str old,.str new]∧(s.length<4294967281∧1≤old.length∧s.length+Lib.count s old*new.length≤140737488355328∧(Lib.replaceAll s old new).length≤MAXL)∧K (.str (Lib.replaceAll s old new))
theorem qgm_:Pure Tryz.prog 206 replaceS_S:=by
 intro w m args us K hm hg hv hT
 obtain ⟨s,old,new,rfl,⟨h1,h2,h3,h4⟩,hK⟩:=hT
 obtain ⟨a,b,c,rfl,ha,hb,hc⟩:=args3 hv.1 hv.2
 obtain ⟨rfl,-⟩:=z1_ ha
 obtain ⟨rfl,-⟩:=z1_ hb
 obtain ⟨rfl,-⟩:=z1_ hc
 obtain ⟨n,hn⟩:=Laid.maxlen w (fun b o e=>hm b o (hg b o e))
 refine (Tryz.strings_ReplaceAll (ba s) (ba old) (ba new) n w (by rw [za_];exact h1) hn (by rw [za_];exact h2) (by rw [za_,za_];exact h3)).mono fun e w' ⟨he,hw⟩=>?_
 exact ⟨_,_,he,Bel.of_below hw,hK,.str h4⟩
end Gv
namespace Gv
variable [Glob] [Laid]
theorem qaq_:callable Tryz.prog 148=true:=by kernel_rfl
def splitS_S:Spec:=fun args K=>∃ (s sep:Bs),args=[.str s,.str sep]∧(s.length<4294967281∧1≤sep.length)∧K (.sl strV (Lib.split s sep))
theorem qan_:Pure Tryz.prog 148 splitS_S:=by
 intro w m args us K hm hg hv hT
 obtain ⟨s,sep,rfl,⟨h1,h2⟩,hK⟩:=hT
 obtain ⟨a,b,rfl,ha,hb⟩:=args2 hv.1 hv.2
 obtain ⟨rfl,-⟩:=z1_ ha
 obtain ⟨rfl,-⟩:=z1_ hb
 obtain ⟨n,hn⟩:=Laid.maxlen w (fun b o e=>hm b o (hg b o e))
 refine (Tryz.strings_Split (ba s) (ba sep) n w (by rw [za_];exact h1) hn (by rw [za_];exact h2)).mono fun e w' ⟨he,hw⟩=>?_
 subst hw
 rw [qf4_] at *
 have hc:Lib.countB (ba s) (ba sep)+1=(Lib.split s sep).length:=(qes_ s sep h2).symm
 have hle:(Lib.split s sep).length≤s.length+2:=by
  rw [←hc]
  have:=Lib.count_le s sep
  show Lib.count s sep+1≤_
  omega
 refine ⟨_,_,by rw [he,hc],Bel.alloc [] w _,hK,qqo_ (Gw.heap_alloc_new w _) (by unfold MAXL;omega) fun x hx=>?_⟩
 have:=qfu_ sep _ s x hx
 unfold MAXL
 omega
end Gv
namespace Gv
variable [Glob] [Laid]
def swp (l:Bs) (i:Nat):Bs:=(List.range l.length).map fun k=>if k<i∨l.length-1-k<i then l.getD (l.length-1-k) 0 else l.getD k 0
theorem qsy_ (l:Bs) (i:Nat):(swp l i).length=l.length:=by simp [swp]
theorem swp_0 (l:Bs):swp l 0=l:=by
 refine List.ext_getElem (by simp [swp]) fun i h1 h2=>?_
 simp [swp,h2]
theorem qtf_ (l:Bs) (i:Nat) (h:l.length≤2*i+1):swp l i=l.reverse:=by
 refine List.ext_getElem (by simp [swp]) fun k h1 h2=>?_
 have hk:k<l.length:=by simpa using h2
 simp only [swp,List.getElem_map,List.getElem_range,List.getElem_reverse]
 by_cases hc:k<i∨l.length-1-k<i
 ·rw [if_pos hc,List.getD_eq_getElem?_getD,List.getElem?_eq_getElem (by omega)]
  rfl
 ·rw [if_neg hc,List.getD_eq_getElem?_getD,List.getElem?_eq_getElem hk]
  have e:l.length-1-k=k:=by omega
  simp only [e]
  rfl
theorem qpo_ (l:Bs) (i:Nat) (h:2*i+1<l.length):((swp l i).set i (l.getD (l.length-1-i) 0)).set (l.length-1-i) (l.getD i 0)=swp l (i+1):=by
 refine List.ext_getElem (by simp [swp]) fun k h1 h2=>?_
 have hk:k<l.length:=by simpa [swp] using h2
 rw [List.getElem_set,List.getElem_set]
 simp only [swp,List.getElem_map,List.getElem_range]
 by_cases e1:l.length-1-i=k
 ·rw [if_pos e1,if_pos (by omega)]
  have:l.length-1-k=i:=by omega
  rw [this]
 ·rw [if_neg e1]
  by_cases e2:i=k
  ·rw [if_pos e2,if_pos (by omega),e2]
  ·rw [if_neg e2]
   by_cases hc:k<i∨l.length-1-k<i
   ·rw [if_pos hc,if_pos (by omega)]
   ·rw [if_neg hc,if_neg (by omega)]
theorem qrx_ (l:Bs) (i k:Nat) (hk:k<l.length) (h:¬ (k<i∨l.length-1-k<i)):(swp l i)[k]?=some (l.getD k 0):=by
 unfold swp
 rw [List.getElem?_map,List.getElem?_range hk]
 simp only [Option.map_some]
 rw [if_neg h]
theorem qtm_:callable Tryz.prog 207=true:=by kernel_rfl
def revB_P:PSpec:=fun args rows K=>∃ (l:Bs),args=[.own 0]∧rows=[.row 1 (l.map byteV)]∧l.length≤1000000000∧K (.tup []) [.row 1 (l.reverse.map byteV)]
noncomputable def revB_lib:List (Nat × Spec):=[]
noncomputable def revB_fns:List (Nat × FnI):=[]
noncomputable def revB_prims:List (Nat × PSpec):=[]
theorem que_:EnvOK ⟨Tryz.prog,tys,revB_lib,revB_fns,revB_prims,[]⟩:=qf_ mixed0 tys0 .nil .nil .nil rfl
theorem ql4_:PrimOK Tryz.prog 207 revB_P:=by
 refine q3_ que_ 6 qtm_ (fi:={fn:=Tryz.f207,hooks:=[],draws:=[(3,[0,0,0,0,0,0,48,112,0,0,768,1792,4083,8179,16383,32767])]}) ⟨Tryz.func207,by kernel_rfl,by kernel_rfl⟩ ?_
 rintro args rows K ⟨l,rfl,rfl,hz,hK⟩
 repeat' first|(refine fun (hl:_≤MAXL)=>?_)|refine And.intro (a:=I64 _) ?_ ?_|fail
 ·(first|omega|(unfold I64;omega)|(simp only [List.length_append,List.length_map,List.length_cons,List.length_nil,Nat.mul_one,Int.ofNat_eq_natCast] at *;omega)|(dsimp only at *;omega)|(unfold I64;dsimp only at *;omega)|(unfold I64;grind)|grind)
 conv=>whnf
 refine qb_ [0] (σ:=Nat × Int × Bs) (fun s=>[(2,.int .i64 s.1),(3,.int .i64 s.2.1)]) (fun s=>[.row 1 (s.2.2.map byteV)]) (fun s=>s.2.1=(l.length:Int)-1-s.1∧s.2.2=swp l s.1∧2*s.1≤l.length+1) (fun s=>l.length+1-s.1) (0,((l.map byteV).length:Int)-1,l) ?_
 conv=>whnf
 refine ⟨(by (refine qa_ ?_;refine Sel4.mk rfl rfl ?_ ?_<;>(repeat' first|exact True.intro|exact rfl|exact .inl rfl|exact .inr rfl|refine And.intro ?_ ?_|fail))),⟨by simp,(swp_0 l).symm,by omega⟩,fun s hs=>?_⟩
 obtain ⟨i,j,d⟩:=s
 obtain ⟨hj,hd,hi⟩:=hs
 dsimp only at hj hd hi
 have hdl:d.length=l.length:=by rw [hd,qsy_]
 repeat' first|(refine fun (b:Bool) hb=>?_;cases b<;>first|exact absurd hb (by decide)|exact nfl hb|exact nfr hb|skip)|refine ⟨_,⟨rfl,rfl⟩,?_⟩|fail
 ·have hij:¬ (i:Int)<j:=of_decide_eq_false (by assumption)
  have:d=l.reverse:=by rw [hd,qtf_ _ _ (by omega)]
  rw [this]
  conv=>whnf
  exact hK
 have hij:(i:Int)<j:=of_decide_eq_true (by assumption)
 obtain ⟨k,hk⟩:∃ k:Nat,j=k:=⟨j.toNat,by omega⟩
 subst hk
 have hkl:k<d.length:=by omega
 have hil:i<d.length:=by omega
 have gk:(List.map byteV d)[k]?=some (byteV d[k]):=by rw [List.getElem?_map,List.getElem?_eq_getElem hkl];rfl
 have gi:(List.map byteV d)[i]?=some (byteV d[i]):=by rw [List.getElem?_map,List.getElem?_eq_getElem hil];rfl
 refine ⟨_,⟨rfl,k,rfl,by simpa using hkl,⟨rfl,rfl⟩⟩,?_⟩
 repeat' first|exact True.intro|refine And.intro (a:=chkPast _ _ _ _ _ _ _ _) ?_ ?_|fail
 conv=>whnf
 refine ⟨_,⟨_,gk,⟨rfl,rfl⟩⟩,?_⟩
 repeat' first|exact True.intro|refine ⟨_,⟨rfl,rfl⟩,?_⟩|refine And.intro (a:=chkPast _ _ _ _ _ _ _ _) ?_ ?_|fail
 conv=>whnf
 refine ⟨_,⟨rfl,i,rfl,by simpa using hil,⟨rfl,rfl⟩⟩,?_⟩
 repeat' first|exact True.intro|refine And.intro (a:=chkPast _ _ _ _ _ _ _ _) ?_ ?_|fail
 conv=>whnf
 refine ⟨_,⟨_,gi,⟨rfl,rfl⟩⟩,?_⟩
 repeat' first|exact True.intro|refine And.intro (a:=chkPast _ _ _ _ _ _ _ _) ?_ ?_|fail
 conv=>whnf
 refine ⟨_,⟨rfl,i,rfl,by simpa using hil,⟨rfl,rfl⟩⟩,?_⟩
 repeat' first|exact True.intro|refine And.intro (a:=chkPast _ _ _ _ _ _ _ _) ?_ ?_|fail
 refine ⟨_,_,⟨by simpa using hil,rfl,rfl⟩,?_⟩
 repeat' first|exact True.intro|refine And.intro (a:=chkPend _ _ _ _ _ _) ?_ ?_|fail
 conv=>whnf
 refine ⟨_,⟨rfl,k,rfl,by simpa using hkl,⟨rfl,rfl⟩⟩,?_⟩
 repeat' first|exact True.intro|refine And.intro (a:=chkPast _ _ _ _ _ _ _ _) ?_ ?_|fail
 conv=>whnf
 refine ⟨_,_,⟨by simpa using hkl,rfl,rfl⟩,?_⟩
 repeat' first|exact True.intro|refine And.intro (a:=I64 _) ?_ ?_|refine And.intro (a:=chkPend _ _ _ _ _ _) ?_ ?_|fail
 ·unfold I64
  dsimp only
  omega
 ·unfold I64
  dsimp only
  omega
 have ek:k=l.length-1-i:=by omega
 have e1:d[k]=l.getD k 0:=by
  have h:=qrx_ l i k (by omega) (by omega)
  rw [←hd,List.getElem?_eq_getElem hkl] at h
  exact Option.some.inj h
 have e2:d[i]=l.getD i 0:=by
  have h:=qrx_ l i i (by omega) (by omega)
  rw [←hd,List.getElem?_eq_getElem hil] at h
  exact Option.some.inj h
 refine ⟨(i+1,(k:Int)-1,(d.set i d[k]).set k d[i]),?_,⟨?_,?_,?_⟩,?_⟩
 rotate_left
 ·show (k:Int)-1=(l.length:Int)-1-((i+1:Nat):Int)
  omega
 ·show (d.set i d[k]).set k d[i]=swp l (i+1)
  rw [e1,e2,hd,ek]
  exact qpo_ l i (by omega)
 ·show 2*(i+1)≤l.length+1
  omega
 ·show l.length+1-(i+1)<l.length+1-i
  omega
 (refine qa_ ?_;refine Sel4.mk rfl rfl ?_ ?_<;>(repeat' first|exact True.intro|exact rfl|exact .inl rfl|exact .inr rfl|refine And.intro ?_ ?_|fail))
 all_goals try (show Row.row 1 _=Row.row 1 _)
 simp [List.map_set]
end Gv
namespace Gv
variable [Glob] [Laid]
theorem qve_:callable Tryz.prog 154=true:=by kernel_rfl
def one_S:Spec:=fun args K=>∃ (c:Cmd) (s:Bs),args=[cmdV c,.str s]∧(checkCmd c=0∧s.length≤900000000)∧K (.tup [.str (oneC c s).1,.bool (oneC c s).2])
noncomputable def one_lib:List (Nat × Spec):=[(147,containsS_S),(206,replaceS_S),(148,splitS_S)]
noncomputable def one_fns:List (Nat × FnI):=[]
noncomputable def one_prims:List (Nat × PSpec):=[(207,revB_P)]
theorem one_E:EnvOK ⟨Tryz.prog,tys,one_lib,one_fns,one_prims,[]⟩:=qf_ mixed0 tys0 (.cons wp_ wo_ (.cons qgr_ qgm_ (.cons qaq_ qan_ .nil))) .nil (.cons ql4_ .nil) rfl
theorem qu5_:Pure Tryz.prog 154 one_S:=by
 refine qe_ one_E 6 (fi:={fn:=Tryz.f154,hooks:=[],draws:=[(7,[0,0,2,6,0,16,48,127,255,511])]}) ⟨Tryz.func154,by kernel_rfl,by kernel_rfl⟩ ?_
 rintro _ K ⟨c,s,rfl,⟨hc,hs⟩,hK⟩
 replace hK:∀ r,r=.tup [.str (oneC c s).1,.bool (oneC c s).2]→K r:=fun r h=>h ▸ hK
 have hsw:=@qab_ [32] (Lib.count s [32]) s
 have hsn:0<(Lib.split s [32]).length:=List.length_pos_iff.2 (wy_ s [32])
 have hcn:c.kind=4→1≤c.n:=fun h=>by
  unfold checkCmd useN at hc
  grind
 have hcw:=@word2 c hc
 have hsl:(Lib.split s [32]).length≤1000000000:=by
  rw [qes_ _ _ (by decide),Lib.count_one]
  have:=List.count_le_length (a:=(32:UInt8)) (l:=s)
  omega
 have hone:∀ r:Bs × Bool,oneC c s=r→K (.tup [.str r.1,.bool r.2]):=fun r h=>hK _ (by rw [h])
 unfold oneC at hone
 repeat' first|exact True.intro|(refine fun (b:Bool) hb=>?_;cases b<;>first|exact absurd hb (by decide)|exact nfl hb|exact nfr hb|skip)|refine And.intro (a:=_≤140737488355328) ?_ ?_|refine ⟨_,⟨rfl,rfl⟩,?_⟩|refine And.intro (a:=chkPast _ _ _ _ _ _ _ _) ?_ ?_|refine Opt.b ?_|fail
 ·
  omega
 ·refine ⟨s,rfl,rfl,by omega,?_⟩
  skip
  refine ⟨s.reverse,rfl,rfl,?_⟩
  skip
  have h1:¬ c.kind=1:=of_decide_eq_false (by assumption)
  have h2:¬ c.kind=2:=of_decide_eq_false (by assumption)
  have h3:¬ c.kind=3:=of_decide_eq_false (by assumption)
  have h4:¬ c.kind=4:=of_decide_eq_false (by assumption)
  rw [if_neg h1,if_neg h2,if_neg h3,if_neg h4] at hone
  exact hone _ rfl
 ·
  have h4:c.kind=4:=of_decide_eq_true (by assumption)
  have:=hcn h4
  refine ⟨s,[32],rfl,⟨by omega,by decide⟩,?_⟩
  rw [if_neg (by omega),if_neg (by omega),if_neg (by omega),if_pos h4] at hone
  repeat' first|(refine fun (b:Bool) hb=>?_;cases b<;>first|exact absurd hb (by decide)|exact nfl hb|exact nfr hb|skip)|(refine fun (hl:_≤MAXL)=>?_)|refine And.intro (a:=I64 _) ?_ ?_|fail
  ·have hle:¬ ((Lib.split s [32]).length:Int)<c.n:=of_decide_eq_false (by assumption)
   (first|omega|(unfold I64;omega)|(simp only [List.length_append,List.length_map,List.length_cons,List.length_nil,Nat.mul_one,Int.ofNat_eq_natCast] at *;omega)|(dsimp only at *;omega)|(unfold I64;dsimp only at *;omega)|(unfold I64;grind)|grind)
  ·have hle:¬ ((Lib.split s [32]).length:Int)<c.n:=of_decide_eq_false (by assumption)
   have hlt:(c.n-1).toNat<(Lib.split s [32]).length:=by omega
   refine ⟨(c.n-1).toNat,by omega,hlt,rfl,?_⟩
   skip
   rw [if_neg hle] at hone
   have e:(Lib.split s [32]).getD (c.n-1).toNat []=(Lib.split s [32])[(c.n-1).toNat]:=by rw [List.getD_eq_getElem?_getD,List.getElem?_eq_getElem hlt];rfl
   rw [e] at hone
   exact hone _ rfl
  ·have hle:((Lib.split s [32]).length:Int)<c.n:=of_decide_eq_true (by assumption)
   rw [if_pos hle] at hone
   exact hone _ rfl
 ·
  have h3:c.kind=3:=of_decide_eq_true (by assumption)
  obtain ⟨x,y,hw⟩:=hcw h3
  rw [if_neg (by omega),if_neg (by omega),if_pos h3] at hone
  obtain ⟨ck,cw,cn⟩:=c
  dsimp only at hw
  subst hw
  refine ⟨_,⟨0,1,rfl,rfl,by decide,by show 1≤2;decide,rfl,rfl⟩,?_⟩
  repeat' first|exact True.intro|refine ⟨_,⟨rfl,rfl⟩,?_⟩|refine And.intro (a:=chkPast _ _ _ _ _ _ _ _) ?_ ?_|fail
  conv=>whnf
  refine ⟨_,⟨1,2,rfl,rfl,by decide,by show 2≤2;decide,rfl,rfl⟩,?_⟩
  skip
  have hr:=yx_ x y s
  have hl:(Lib.replaceAll s [x] [y]).length=s.length:=by rw [hr];simp
  have hcs:Lib.count s [x]≤s.length:=by rw [Lib.count_one];exact List.count_le_length
  apply Exists.intro
  apply And.intro
  ·refine ⟨s,[x],[y],rfl,⟨by omega,by show 1≤1;decide,by show s.length+Lib.count s [x] * 1≤_;omega,by rw [hl];unfold MAXL;omega⟩,?_⟩
   exact ⟨rfl,rfl⟩
  repeat' first|refine ⟨_,⟨rfl,rfl⟩,?_⟩|fail
  exact hone _ rfl
 ·have h:c.kind=2:=of_decide_eq_true (by assumption)
  refine ⟨s,c.word,rfl,by omega,?_⟩
  skip
  rw [if_neg (by omega),if_pos h] at hone
  exact hone _ rfl
 ·have h:c.kind=1:=of_decide_eq_true (by assumption)
  refine ⟨s,c.word,rfl,by omega,?_⟩
  skip
  rw [if_pos h] at hone
  exact hone _ rfl
end Gv
namespace Gv
variable [Glob] [Laid] [Nums]
theorem qib_ (w:World) (k:Nat) (os:Array Obj):Bel [] w (Go.Sort.grow (w.drewN k) os) :=
 ⟨rfl,rfl,rfl,by rw [Go.Sort.size_grow];exact Nat.le_add_right _ _,fun i hi _=>Go.Sort.heap_grow_old (w.drewN k) os hi⟩
theorem w9_:callable Tryz.prog 150=true:=by kernel_rfl
def itoa_S:Spec:=fun args K=>∃ (n:Int),args=[.int .i64 n]∧I64 n∧K (.str (Lib.itoa n))
theorem qba_:Pure Tryz.prog 150 itoa_S:=by
 intro w m args us K hm hg hv hT
 obtain ⟨n,rfl,h1,hK⟩:=hT
 obtain ⟨a,rfl,ha⟩:=args1 hv.1 hv.2
 cases ha
 refine (Tryz.strconv_Itoa n h1.1 h1.2 w (Nums.pow10 w (fun b o e=>hm b o (hg b o e)))).mono fun e w' ⟨he,k,os,hw⟩=>?_
 subst hw
 have:=wz_ n h1
 exact ⟨_,_,he,qib_ w k os,hK,.str (by unfold MAXL;omega)⟩
end Gv
namespace Gv
variable [Glob] [Laid]
theorem qh1_:callable Tryz.prog 152=true:=by kernel_rfl
def sortS_P:PSpec:=fun args rows K=>(∃ (l:List Bs),args=[.own 0]∧rows=[.row 1 (l.map strV)]∧l.length<4611686018427387904∧K (.tup []) [.row 1 ((sortB l).map strV)])∨(args=[.nil]∧rows=[]∧K (.tup []) [])
theorem qcl_:PrimOK Tryz.prog 152 sortS_P:=by
 intro w0 m0 args rows k R m q w us C hv hT
 rcases hT with ⟨l,rfl,rfl,hl,hK⟩|⟨rfl,rfl,hK⟩
 rotate_left
 ·obtain ⟨u,rfl,hu⟩:=qdz_ hv
  refine ⟨qh1_,?_⟩
  cases hu
  refine (Tryz.slices_Sort_string_none none 0 w).mono fun e w' ⟨he,hw⟩=>?_
  subst hw
  exact ⟨_,he,_,_,_,_,_,hK,C,Mem.Le.refl m,Loc.Le.refl q,.tup (us:=[]) rfl fun i v u h=>by simp at h⟩
 obtain ⟨u,rfl,hu⟩:=qdz_ hv
 refine ⟨qh1_,?_⟩
 rcases qhn_ C hu with ⟨rfl,rfl⟩|⟨b,cap,arr,T,fz,rfl,h1,h2,h3,h4,h5,h6,h7,h8⟩
 ·refine (Tryz.slices_Sort_string_none none 0 w).mono fun e w' ⟨he,hw⟩=>?_
  subst hw
  have e:sortB ([]:List Bs)=[]:=by simp [sortB]
  rw [e] at hK
  exact ⟨_,he,_,_,_,_,_,hK,C,Mem.Le.refl m,Loc.Le.refl q,.tup (us:=[]) rfl fun i v u h=>by simp at h⟩
 ·have hblk:=C.sit.lt h4
  refine (Tryz.slices_Sort_string b 0 cap l w h7 hblk hl).mono fun e w' ⟨he,n,os,hw⟩=>?_
  obtain ⟨g1,g2⟩:=wm_ (C.sit.own _ _ h4).2.1 hw
  have C2:=C.strs_put (l':=sortB l) h3 h4 h5 h6 h2 h1 (qlc_ l) (fun x hx=>h8 x ((wi_ l).mem_iff.1 hx)) g1 g2
  exact ⟨_,he,_,_,_,_,_,hK,C2,Mem.Le.refl m,Loc.Le.refl q,.tup (us:=[]) rfl fun i v u h=>by simp at h⟩
end Gv
namespace Gv
variable [Glob] [Laid]
theorem qbg_:callable Tryz.prog 153=true:=by kernel_rfl
def compactS_P:PSpec:=fun args rows K=>(∃ (l:List Bs),args=[.own 0]∧rows=[.row 1 (l.map strV)]∧K (.own 1) [.dead,.row 1 ((onceB l).map strV)])∨(args=[.nil]∧rows=[]∧K .nil [])
theorem qde_:PrimOK Tryz.prog 153 compactS_P:=by
 intro w0 m0 args rows k R m q w us C hv hT
 rcases hT with ⟨l,rfl,rfl,hK⟩|⟨rfl,rfl,hK⟩
 rotate_left
 ·obtain ⟨u,rfl,hu⟩:=qdz_ hv
  refine ⟨qbg_,?_⟩
  cases hu
  refine (Tryz.slices_Compact_string_empty none 0 w).mono fun e w' ⟨he,hw⟩=>?_
  subst hw
  exact ⟨_,he,_,_,_,_,_,hK,C,Mem.Le.refl m,Loc.Le.refl q,.nil⟩
 obtain ⟨u,rfl,hu⟩:=qdz_ hv
 refine ⟨qbg_,?_⟩
 rcases qhn_ C hu with ⟨rfl,rfl⟩|⟨b,cap,arr,T,fz,rfl,h1,h2,h3,h4,h5,h6,h7,h8⟩
 ·refine (Tryz.slices_Compact_string_empty none 0 w).mono fun e w' ⟨he,hw⟩=>?_
  subst hw
  have C1:=C.kill (r:=0) rfl
  have C2:=C1.row0 1
  refine ⟨_,he,_,_,_,_,_,hK,C2,Mem.Le.refl m,C1.le_add _,?_⟩
  exact VR.own (ql_ q 1 (none,0,0,1))
 ·have hw0:=(C.sit.own _ _ h4).2.1
  refine (Tryz.slices_Compact_string b 0 cap l w h7 (by unfold MAXL at h2;omega) h1).mono fun e w' ⟨he,n,hw⟩=>?_
  obtain ⟨g1,g2⟩:=wm_ (w':=w') (n:=n) (d:=(Lib.compact l++List.replicate (l.length-(Lib.compact l).length) ([]:Bs)).toArray) (os:=#[]) hw0 (by rw [hw,Go.Sort.grow_empty])
  have S':=C.sit.write h4 g1 g2
  have hlen:(Lib.compact l++List.replicate (l.length-(Lib.compact l).length) ([]:Bs)).length≤cap:=by
   have:=qep_ l
   unfold onceB at this
   simp
   omega
  have he':ElsR m 1 ((onceB l).map strV) (Go.Sort.putCells Go.Proofs.encStr 0 (Lib.compact l++List.replicate (l.length-(Lib.compact l).length) ([]:Bs)).toArray arr):=fun i x hi=>by
   have hx:=qnf_ (m:=m) (l:=l) (l':=Lib.compact l++List.replicate (l.length-(Lib.compact l).length) ([]:Bs)) h5 hlen (fun x hx=>by
    rcases List.mem_append.1 hx with hx|hx
    ·exact h8 x (qn1_ l x hx)
    ·rw [(List.mem_replicate.1 hx).2];exact Nat.zero_le _)
   refine hx i x ?_
   rw [List.map_append,List.getElem?_append_left (show i<((Lib.compact l).map strV).length from (List.getElem?_eq_some_iff.1 hi).1)]
   exact hi
  have e0:([Row.row 1 (l.map strV)].set 0 Row.dead++[.row 1 ((onceB l).map strV)])=[.dead,.row 1 ((onceB l).map strV)]:=rfl
  have C2:=C.move (r:=0) (y:=.row 1 ((onceB l).map strV)) (n':=(onceB l).length) (c':=cap) (k':=1) rfl rfl h3 S' ⟨some b,cap,by simp [ql_],by simp;have:=qep_ l;omega,h2,(fun h=>by cases h),fun b' e=>by
   cases e
   exact ⟨_,T,fz,by simp [Mem.put],by rw [zu_];exact h5,he',noFk1 (by rw [zu_];exact h6)⟩⟩
  refine ⟨_,he,_,_,_,_,_,hK,C2,Mem.Le.refl m,C.le_add _,?_⟩
  exact VR.own (ql_ q 1 (some b,(onceB l).length,cap,1))
end Gv
namespace Gv
variable [Glob] [Laid] [Nums]
theorem qbb_:callable Tryz.prog 91=true:=by kernel_rfl
def linesC_S:Spec:=fun args K=>∃ (c:Cmd) (l:List Bs),args=[cmdV c,.sl strV l]∧(checkCmd c=0∧l.length≤900000000∧∀ s∈l,s.length≤900000000)∧K (.sl strV (linesC c l))
noncomputable def linesC_lib:List (Nat × Spec):=[(154,one_S),(150,itoa_S)]
noncomputable def linesC_fns:List (Nat × FnI):=[(131,{fn:=Tryz.f131,hooks:=[],draws:=[]})]
noncomputable def linesC_prims:List (Nat × PSpec):=[(152,sortS_P),(153,compactS_P)]
theorem qpa_:EnvOK ⟨Tryz.prog,tys,linesC_lib,linesC_fns,linesC_prims,[]⟩:=qf_ mixed0 tys0 (.cons qve_ qu5_ (.cons w9_ qba_ .nil)) (.cons (by kernel_rfl) ⟨Tryz.func131,by kernel_rfl,by kernel_rfl⟩ .nil) (.cons qcl_ (.cons qde_ .nil)) rfl
theorem qak_:Pure Tryz.prog 91 linesC_S:=by
 refine qe_ qpa_ 6 (fi:={fn:=Tryz.f91,hooks:=[],draws:=[]}) ⟨Tryz.func91,by kernel_rfl,by kernel_rfl⟩ ?_
 rintro _ K ⟨c,l,rfl,⟨hc,hl,hs⟩,hK⟩
 replace hK:∀ r,r=.sl strV (linesC c l)→K r:=fun r h=>h ▸ hK
 have hcn:c.kind=9∨c.kind=10→1≤c.n∧c.n≤1000:=fun h=>by
  unfold checkCmd useN at hc
  grind
 have hone:∀ r:List Bs,linesC c l=r→K (.sl strV r):=fun r h=>hK _ (by rw [h])
 unfold linesC at hone
 repeat' first|(refine fun (b:Bool) hb=>?_;cases b<;>first|exact absurd hb (by decide)|exact nfl hb|exact nfr hb|skip)|(refine fun (hl:_≤MAXL)=>?_)|refine And.intro (a:=I64 _) ?_ ?_|refine And.intro (a:=_≤140737488355328) ?_ ?_|refine ⟨(fun _=>rfl),?_⟩|fail
 ·
  have h6:¬ c.kind=6:=of_decide_eq_false (by assumption)
  have h7:¬ c.kind=7:=of_decide_eq_false (by assumption)
  have h8:¬ c.kind=8:=of_decide_eq_false (by assumption)
  have h9:¬ c.kind=9:=of_decide_eq_false (by assumption)
  have h10:¬ c.kind=10:=of_decide_eq_false (by assumption)
  rw [if_neg h6,if_neg h7,if_neg h8,if_neg h9,if_neg h10] at hone
  conv=>whnf
  refine qb_ [2,51,52] (σ:=Nat × List Bs) (fun s=>[(53,.int .i64 s.1),(5,.own 1)]) (fun s=>[.box (cmdV c).cells,.row 1 (s.2.map strV)]) (fun s=>s.2=(l.take s.1).filterMap (outC c)∧s.1≤l.length) (fun s=>l.length-s.1) (0,[]) ?_
  conv=>whnf
  refine ⟨(by (refine qa_ ?_;refine Sel4.mk rfl rfl ?_ ?_<;>(repeat' first|exact True.intro|exact rfl|exact .inl rfl|exact .inr rfl|refine And.intro ?_ ?_|fail))),⟨by simp,Nat.zero_le _⟩,fun s hs=>?_⟩
  obtain ⟨i,out⟩:=s
  obtain ⟨ho,hi⟩:=hs
  dsimp only at ho hi
  have hol:out.length≤900000000:=by
   rw [ho]
   have:=List.length_filterMap_le (outC c) (l.take i)
   simp only [List.length_take] at this
   omega
  repeat' first|refine ⟨_,_,_,LeL.refl _,?_⟩|(refine fun (b:Bool) hb=>?_;cases b<;>first|exact absurd hb (by decide)|exact nfl hb|exact nfr hb|skip)|refine ⟨_,rfl,?_,rfl,?_⟩|fail
  ·have h:¬ (i:Int)<(l.length:Int):=of_decide_eq_false (by assumption)
   have e:i=l.length:=by omega
   rw [e,List.take_length] at ho
   conv=>whnf
   exact hone _ ho.symm
  all_goals have hlt:i<l.length:=by grind
  ·exact hlt
  refine ⟨c,l[i],rfl,⟨hc,hs _ (List.getElem_mem hlt)⟩,?_⟩
  have hnx:(l.take (i+1)).filterMap (outC c)=out++(match oneC c l[i] with|(t,true)=>[t]|(_,false)=>[]):=by
   rw [List.take_succ_eq_append_getElem hlt,List.filterMap_append,←ho]
   congr 1
   simp only [List.filterMap_cons,List.filterMap_nil]
   unfold outC
   generalize oneC c l[i]=p
   obtain ⟨t,b⟩:=p
   cases b<;>rfl
  obtain ⟨p,hp⟩:∃ p,oneC c l[i]=p:=⟨_,rfl⟩
  rw [hp] at hnx ⊢
  obtain ⟨t,b⟩:=p
  cases b
  ·repeat' first|(refine fun (b:Bool) hb=>?_;cases b<;>first|exact absurd hb (by decide)|exact nfl hb|exact nfr hb|skip)|refine And.intro (a:=I64 _) ?_ ?_|fail
   ·(first|omega|(unfold I64;omega)|(simp only [List.length_append,List.length_map,List.length_cons,List.length_nil,Nat.mul_one,Int.ofNat_eq_natCast] at *;omega)|(dsimp only at *;omega)|(unfold I64;dsimp only at *;omega)|(unfold I64;grind)|grind)
   refine ⟨(i+1,out),(by (refine qa_ ?_;refine Sel4.mk rfl rfl ?_ ?_<;>(repeat' first|exact True.intro|exact rfl|exact .inl rfl|exact .inr rfl|refine And.intro ?_ ?_|fail))),⟨?_,hlt⟩,?_⟩
   ·show out=_
    rw [hnx]
    simp
   ·show l.length-(i+1)<l.length-i
    omega
  ·repeat' first|(refine fun (b:Bool) hb=>?_;cases b<;>first|exact absurd hb (by decide)|exact nfl hb|exact nfr hb|skip)|refine And.intro (a:=I64 _) ?_ ?_|refine And.intro (a:=_≤140737488355328) ?_ ?_|refine ⟨rfl,?_⟩|fail
   ·show ((out.map strV).length+1)*16≤140737488355328
    rw [List.length_map]
    omega
   ·(first|omega|(unfold I64;omega)|(simp only [List.length_append,List.length_map,List.length_cons,List.length_nil,Nat.mul_one,Int.ofNat_eq_natCast] at *;omega)|(dsimp only at *;omega)|(unfold I64;dsimp only at *;omega)|(unfold I64;grind)|grind)
   refine ⟨(i+1,out++[t]),?_,⟨?_,hlt⟩,?_⟩
   rotate_left
   ·show out++[t]=_
    rw [hnx]
   ·show l.length-(i+1)<l.length-i
    omega
   (refine qa_ ?_;refine Sel4.mk rfl rfl ?_ ?_<;>(repeat' first|exact True.intro|exact rfl|exact .inl rfl|exact .inr rfl|refine And.intro ?_ ?_|fail))
   show Row.row 1 _=Row.row 1 _
   simp
   rfl
 ·obtain ⟨h1,h2⟩:=hcn (.inr (of_decide_eq_true (by assumption)))
  (first|omega|(unfold I64;omega)|(simp only [List.length_append,List.length_map,List.length_cons,List.length_nil,Nat.mul_one,Int.ofNat_eq_natCast] at *;omega)|(dsimp only at *;omega)|(unfold I64;dsimp only at *;omega)|(unfold I64;grind)|grind)
 ·obtain ⟨h1,h2⟩:=hcn (.inr (of_decide_eq_true (by assumption)))
  have h6:¬ c.kind=6:=of_decide_eq_false (by assumption)
  have h7:¬ c.kind=7:=of_decide_eq_false (by assumption)
  have h8:¬ c.kind=8:=of_decide_eq_false (by assumption)
  have h9:¬ c.kind=9:=of_decide_eq_false (by assumption)
  have h10:c.kind=10:=of_decide_eq_true (by assumption)
  rw [if_neg h6,if_neg h7,if_neg h8,if_neg h9,if_pos h10] at hone
  conv=>whnf
  refine ⟨l.length-c.n.toNat,by omega,by omega,?_⟩
  repeat' first|refine ⟨_,_,_,LeL.refl _,?_⟩|(refine fun (b:Bool) hb=>?_;cases b<;>first|exact absurd hb (by decide)|exact nfl hb|exact nfr hb|skip)|refine And.intro (a:=_≤140737488355328) ?_ ?_|refine ⟨(fun _=>rfl),?_⟩|fail
  ·show (0+((l.drop (l.length-c.n.toNat)).map strV).length)*16≤140737488355328
   rw [List.length_map,List.length_drop]
   omega
  ·exact hone _ rfl
  ·have h:true=true→l.drop (l.length-c.n.toNat)=[]:=by assumption
   refine ⟨_,strV,hone _ (h rfl)⟩
 ·obtain ⟨h1,h2⟩:=hcn (.inl (of_decide_eq_true (by assumption)))
  have h6:¬ c.kind=6:=of_decide_eq_false (by assumption)
  have h7:¬ c.kind=7:=of_decide_eq_false (by assumption)
  have h8:¬ c.kind=8:=of_decide_eq_false (by assumption)
  have h9:c.kind=9:=of_decide_eq_true (by assumption)
  rw [if_neg h6,if_neg h7,if_neg h8,if_pos h9] at hone
  conv=>whnf
  have ht:l.take (min c.n.toNat l.length)=l.take c.n.toNat:=by
   rw [←List.take_take,List.take_length]
  refine ⟨min c.n.toNat l.length,by omega,by omega,?_⟩
  repeat' first|refine ⟨_,_,_,LeL.refl _,?_⟩|(refine fun (b:Bool) hb=>?_;cases b<;>first|exact absurd hb (by decide)|exact nfl hb|exact nfr hb|skip)|refine And.intro (a:=_≤140737488355328) ?_ ?_|refine ⟨(fun _=>rfl),?_⟩|fail
  ·show (0+((l.take (min c.n.toNat l.length)).map strV).length)*16≤140737488355328
   rw [List.length_map,List.length_take]
   omega
  ·exact hone _ ht.symm
  ·have h:true=true→l.take (min c.n.toNat l.length)=[]:=by assumption
   refine ⟨_,strV,hone _ (ht.symm.trans (h rfl))⟩
 ·have h6:¬ c.kind=6:=of_decide_eq_false (by assumption)
  have h7:¬ c.kind=7:=of_decide_eq_false (by assumption)
  have h8:c.kind=8:=of_decide_eq_true (by assumption)
  rw [if_neg h6,if_neg h7,if_pos h8] at hone
  refine ⟨l.length,rfl,⟨by omega,by omega⟩,?_⟩
  skip
  refine ⟨Bs,strV,[Lib.itoa l.length],LeL.refl _,?_⟩
  exact hone _ rfl
 ·show (0+(l.map strV).length)*16≤140737488355328
  rw [List.length_map]
  omega
 ·refine .inl ⟨l,rfl,rfl,?_⟩
  repeat' first|refine ⟨_,_,_,LeL.refl _,?_⟩|fail
  have h6:¬ c.kind=6:=of_decide_eq_false (by assumption)
  have h7:c.kind=7:=of_decide_eq_true (by assumption)
  rw [if_neg h6,if_pos h7] at hone
  exact hone _ rfl
 ·have h:true=true→l=[]:=by assumption
  refine .inr ⟨rfl,rfl,?_⟩
  skip
  have h6:¬ c.kind=6:=of_decide_eq_false (by assumption)
  have h7:c.kind=7:=of_decide_eq_true (by assumption)
  rw [if_neg h6,if_pos h7,h rfl] at hone
  exact ⟨_,strV,hone [] (by simp [onceB,Lib.compact,Lib.compactUpTo])⟩
 ·show (0+(l.map strV).length)*16≤140737488355328
  rw [List.length_map]
  omega
 ·refine .inl ⟨l,rfl,rfl,by omega,?_⟩
  repeat' first|refine ⟨_,_,_,LeL.refl _,?_⟩|fail
  have h6:c.kind=6:=of_decide_eq_true (by assumption)
  rw [if_pos h6] at hone
  exact hone _ rfl
 ·have h:true=true→l=[]:=by assumption
  refine .inr ⟨rfl,rfl,?_⟩
  skip
  have h6:c.kind=6:=of_decide_eq_true (by assumption)
  rw [if_pos h6,h rfl] at hone
  exact ⟨_,strV,hone [] (by simp [sortB])⟩
end Gv
namespace Gv
variable [Glob] [Laid]
def bestI:Option (Nat × Bs)→Int
 | none=>-1
 | some (j,_)=>j
theorem qmc_:callable Tryz.prog 167=true:=by kernel_rfl
def mergeJ_S:Spec:=fun args K=>∃ p:List (List Bs),args=[.sl lsV p]∧(p.flatten.length≤1000000000∧p.length≤1000)∧K (.sl strV (mergeB p))
noncomputable def mergeJ_lib:List (Nat × Spec):=[]
noncomputable def mergeJ_fns:List (Nat × FnI):=[(218,{fn:=Tryz.f218,hooks:=[],draws:=[]})]
noncomputable def mergeJ_prims:List (Nat × PSpec):=[]
theorem qqj_:EnvOK ⟨Tryz.prog,tys,mergeJ_lib,mergeJ_fns,mergeJ_prims,[]⟩:=qf_ mixed0 tys0 .nil (.cons (by kernel_rfl) ⟨Tryz.func218,by kernel_rfl,by kernel_rfl⟩ .nil) .nil rfl
theorem qmv_:Pure Tryz.prog 167 mergeJ_S:=by
 refine qe_ qqj_ 6 (fi:={fn:=Tryz.f167,hooks:=[2],draws:=[(7,[0,1,3,7,15,31,63,127,255,511,127,127,3199,7295,15487,31871,65535,131071,262143]),(12,[0,0,0,0,0,24,56,120,248,504,1020,0,0,6144,14336,30720,2044,131071,262143])]}) ⟨Tryz.func167,by kernel_rfl,by kernel_rfl⟩ ?_
 rintro _ K ⟨p,rfl,⟨hp1,hp2⟩,hK⟩
 replace hK:∀ r,r=.sl strV (mergeB p)→K r:=fun r h=>h ▸ hK
 conv=>whnf
 refine qd_ [] (σ:=Unit) (fun _=>[(0,.own 0)]) (fun _=>[.row 1 (p.map lsV)]) (fun _=>True) ?_
 conv=>whnf
 refine ⟨?_,fun _ _=>?_⟩
 ·repeat' first|(refine fun (b:Bool) hb=>?_;cases b<;>first|exact absurd hb (by decide)|exact nfl hb|exact nfr hb|skip)|refine And.intro (a:=_≤140737488355328) ?_ ?_|refine ⟨(fun _=>rfl),?_⟩|fail
  ·show (0+(p.map lsV).length)*24≤140737488355328
   rw [List.length_map]
   omega
  ·exact ⟨(),(by (refine qa_ ?_;refine Sel4.mk rfl rfl ?_ ?_<;>(repeat' first|exact True.intro|exact rfl|exact .inl rfl|exact .inr rfl|refine And.intro ?_ ?_|fail))),trivial⟩
  ·have h:true=true→p=[]:=by assumption
   rw [h rfl]
   exact ⟨(),(by (refine qa_ ?_;refine Sel4.mk rfl rfl ?_ ?_<;>(repeat' first|exact True.intro|exact rfl|exact .inl rfl|exact .inr rfl|refine And.intro ?_ ?_|fail))),trivial⟩
 skip
 conv=>whnf
 refine qb_ [0] (σ:=List (List Bs) × List Bs) (fun s=>[(3,.own 1)]) (fun s=>[.row 1 (s.1.map lsV),.row 1 (s.2.map strV)]) (fun s=>s.2++mergeB s.1=mergeB p∧s.1.length=p.length∧s.2.length+s.1.flatten.length=p.flatten.length) (fun s=>s.1.flatten.length) (p,[]) ?_
 conv=>whnf
 refine ⟨(by (refine qa_ ?_;refine Sel4.mk rfl rfl ?_ ?_<;>(repeat' first|exact True.intro|exact rfl|exact .inl rfl|exact .inr rfl|refine And.intro ?_ ?_|fail))),⟨rfl,rfl,by simp⟩,fun s hs=>?_⟩
 obtain ⟨q,out⟩:=s
 obtain ⟨h1,h2,h3⟩:=hs
 dsimp only at h1 h2 h3
 repeat' first|(refine fun (hl:_≤MAXL)=>?_)|fail
 conv=>whnf
 refine qb_ [0,3,9,10] (σ:=Nat) (fun i=>[(11,.int .i64 i),(4,.int .i64 (bestI (best q i)))]) (fun s=>[.row 1 (q.map lsV),.row 1 (out.map strV)]) (fun i=>i≤q.length) (fun i=>q.length-i) 0 ?_
 conv=>whnf
 refine ⟨(by (refine qa_ ?_;refine Sel4.mk rfl rfl ?_ ?_<;>(repeat' first|exact True.intro|exact rfl|exact .inl rfl|exact .inr rfl|refine And.intro ?_ ?_|fail))),Nat.zero_le _,fun i hi=>?_⟩
 repeat' first|refine ⟨_,_,_,LeL.refl _,?_⟩|(refine fun (b:Bool) hb=>?_;cases b<;>first|exact absurd hb (by decide)|exact nfl hb|exact nfr hb|skip)|refine ⟨_,⟨rfl,rfl⟩,?_⟩|refine ⟨rfl,?_⟩|fail
 ·
  have hge:¬ (i:Int)<((q.map lsV).length:Int):=of_decide_eq_false (by assumption)
  rw [List.length_map] at hge
  have ei:i=q.length:=by omega
  have hb:¬ bestI (best q i)<0:=of_decide_eq_false (by assumption)
  obtain ⟨j,s,hbt⟩:∃ j s,best q i=some (j,s):=by
   cases hq:best q i with
   | none=>rw [hq] at hb;exact absurd (show (-1:Int)<0 by decide) hb
   | some x=>exact ⟨x.1,x.2,rfl⟩
  have hbt2:best q q.length=some (j,s):=by rw [←ei];exact hbt
  obtain ⟨hji,⟨r,hjr⟩,-⟩:=zp_ hbt2
  have hqj:q[j]=s::r:=by rw [List.getD_eq_getElem?_getD,List.getElem?_eq_getElem hji] at hjr;exact hjr
  have hgj:(q.map lsV)[j]?=some (lsV q[j]):=by rw [List.getElem?_map,List.getElem?_eq_getElem hji];rfl
  have hpj:0<q[j].length:=by rw [hqj];exact Nat.succ_pos _
  have hj0:∀ h:0<q[j].length,q[j][0]=s:=fun h=>by simp [hqj]
  have hms:=yq_ hbt2
  have hfl:=(xf_ hjr).length_eq
  rw [List.length_cons] at hfl
  conv=>whnf
  refine ⟨_,⟨rfl,j,by rw [hbt];rfl,by simpa using hji,⟨rfl,rfl⟩⟩,?_⟩
  repeat' first|exact True.intro|refine And.intro (a:=chkPast _ _ _ _ _ _ _ _) ?_ ?_|fail
  conv=>whnf
  refine ⟨_,⟨_,hgj,⟨rfl,rfl⟩⟩,?_⟩
  repeat' first|exact True.intro|refine ⟨_,⟨rfl,rfl⟩,?_⟩|refine And.intro (a:=chkPast _ _ _ _ _ _ _ _) ?_ ?_|refine ⟨_,⟨_,rfl,?_,rfl,rfl,rfl⟩,?_⟩|fail
  ·exact hpj
  refine ⟨_,⟨Bs,strV,[q[j][0]],LeL.refl _,rfl,rfl⟩,?_⟩
  refine ⟨_,_,⟨fun _=>rfl,?_,rfl,rfl⟩,?_⟩
  ·show ((out.map strV).length+([q[j][0]].map strV).length)*16≤140737488355328
   rw [List.length_map,List.length_map,List.length_singleton]
   omega
  repeat' first|exact True.intro|refine ⟨_,⟨rfl,rfl⟩,?_⟩|refine And.intro (a:=chkPend _ _ _ _ _ _) ?_ ?_|fail
  conv=>whnf
  refine ⟨_,⟨rfl,j,by rw [hbt];rfl,by simpa using hji,⟨rfl,rfl⟩⟩,?_⟩
  repeat' first|refine And.intro (a:=chkPast _ _ _ _ _ _ _ _) ?_ ?_|fail
  ·conv=>whnf
   exact ⟨⟨rfl,j,by rw [hbt];rfl,by simpa using hji,⟨rfl,rfl⟩⟩,trivial⟩
  conv=>whnf
  refine ⟨_,⟨_,hgj,⟨rfl,rfl⟩⟩,?_⟩
  repeat' first|refine And.intro (a:=chkPast _ _ _ _ _ _ _ _) ?_ ?_|fail
  ·conv=>whnf
   exact ⟨⟨_,hgj,⟨rfl,rfl⟩⟩,trivial⟩
  refine ⟨_,⟨fun _=>rfl,1,rfl,hpj,rfl,rfl⟩,?_⟩
  repeat' first|refine ⟨_,⟨rfl,rfl⟩,?_⟩|fail
  conv=>whnf
  refine ⟨_,⟨rfl,j,by rw [hbt];rfl,by simpa using hji,⟨rfl,rfl⟩⟩,?_⟩
  repeat' first|exact True.intro|refine And.intro (a:=chkPast _ _ _ _ _ _ _ _) ?_ ?_|fail
  conv=>whnf
  refine ⟨_,_,⟨by simpa using hji,rfl,rfl⟩,?_⟩
  repeat' first|exact True.intro|refine And.intro (a:=chkPend _ _ _ _ _ _) ?_ ?_|fail
  refine ⟨(q.set j ((q.getD j []).drop 1),out++[s]),?_,⟨?_,?_,?_⟩,?_⟩
  rotate_left
  ·show (out++[s])++mergeB _=_
   rw [←h1,hms,List.append_assoc]
   rfl
  ·show (q.set j _).length=_
   rw [List.length_set,h2]
  ·show (out++[s]).length+(q.set j _).flatten.length=_
   rw [List.length_append,List.length_singleton]
   omega
  ·show (q.set j _).flatten.length<q.flatten.length
   omega
  refine qc_ [some 0,some 2] rfl rfl ⟨?_,?_,trivial⟩ ?_
  ·show Row.row 1 _=Row.row 1 _
   rw [hjr,hqj,List.map_set]
   rfl
  ·show Row.row 1 _=Row.row 1 _
   rw [hj0 hpj,List.map_append]
  ·(repeat' first|exact True.intro|exact rfl|exact .inl rfl|exact .inr rfl|refine And.intro ?_ ?_|fail)
 ·
  have hge:¬ (i:Int)<((q.map lsV).length:Int):=of_decide_eq_false (by assumption)
  rw [List.length_map] at hge
  have ei:i=q.length:=by omega
  have hb:decide (bestI (best q i)<0)=true:=by assumption
  have hn:best q q.length=none:=by
   rw [ei] at hb
   cases hq:best q q.length with
   | none=>rfl
   | some x =>
    obtain ⟨j,s⟩:=x
    rw [hq] at hb
    have:=of_decide_eq_true hb
    have this:(j:Int)<0:=this
    omega
  rw [ys_ hn,List.append_nil] at h1
  conv=>whnf
  exact hK _ (by rw [h1])
 have hlt:i<q.length:=by
  have h:=of_decide_eq_true (by assumption:decide ((i:Int)<((q.map lsV).length:Int))=true)
  rw [List.length_map] at h
  omega
 have hg:(q.map lsV)[i]?=some (lsV q[i]):=by rw [List.getElem?_map,List.getElem?_eq_getElem hlt];rfl
 refine ⟨i,rfl,by simpa using hlt,?_⟩
 conv=>whnf
 refine ⟨_,hg,?_⟩
 have hgd:q.getD i []=q[i]:=by rw [List.getD_eq_getElem?_getD,List.getElem?_eq_getElem hlt];rfl
 have hstep:best q (i+1)=bestStep (best q i) i q[i]:=by rw [best,hgd]
 repeat' first|(refine fun (b:Bool) hb=>?_;cases b<;>first|exact absurd hb (by decide)|exact nfl hb|exact nfr hb|skip)|refine And.intro (a:=I64 _) ?_ ?_|refine ⟨_,⟨rfl,rfl⟩,?_⟩|refine ⟨_,(fun _=>⟨rfl,rfl⟩),?_⟩|refine ⟨_,⟨_,rfl,?_,rfl,rfl,rfl⟩,?_⟩|fail
 ·unfold I64;omega
 ·have h:¬ (0:Int)<(q[i].length:Int):=of_decide_eq_false (by assumption)
  have h0:q[i]=[]:=List.length_eq_zero_iff.1 (by omega)
  refine ⟨i+1,?_,hlt,by show q.length-(i+1)<q.length-i;omega⟩
  have e:best q (i+1)=best q i:=by rw [hstep,h0];rfl
  rw [e]
  exact (by (refine qa_ ?_;refine Sel4.mk rfl rfl ?_ ?_<;>(repeat' first|exact True.intro|exact rfl|exact .inl rfl|exact .inr rfl|refine And.intro ?_ ?_|fail)))
 ·have h:(0:Int)<(q[i].length:Int):=of_decide_eq_true (by assumption)
  have h0:0<q[i].length:=by omega
  exact h0
 ·have hb:¬ bestI (best q i)<0:=of_decide_eq_false (by assumption)
  obtain ⟨j,t,hbt⟩:∃ j t,best q i=some (j,t):=by
   cases hq:best q i with
   | none=>rw [hq] at hb;exact absurd (show (-1:Int)<0 by decide) hb
   | some x=>exact ⟨x.1,x.2,rfl⟩
  obtain ⟨hji,⟨r,hjr⟩,-⟩:=zp_ hbt
  have hjl:j<q.length:=by omega
  have hqj:q[j]=t::r:=by rw [List.getD_eq_getElem?_getD,List.getElem?_eq_getElem hjl] at hjr;exact hjr
  have hgj:(q.map lsV)[j]?=some (lsV q[j]):=by rw [List.getElem?_map,List.getElem?_eq_getElem hjl];rfl
  obtain ⟨s,r',hsr⟩:∃ s r',q[i]=s::r':=by
   have h:(0:Int)<(q[i].length:Int):=of_decide_eq_true (by assumption)
   cases hq:q[i] with
   | nil=>rw [hq] at h;simp at h
   | cons s r=>exact ⟨s,r,rfl⟩
  have hpi:0<q[i].length:=by rw [hsr];exact Nat.succ_pos _
  have hpj:0<q[j].length:=by rw [hqj];exact Nat.succ_pos _
  have hi0:∀ h:0<q[i].length,q[i][0]=s:=fun h=>by simp [hsr]
  have hj0:∀ h:0<q[j].length,q[j][0]=t:=fun h=>by simp [hqj]
  have hstep2:best q (i+1)=if Op.bytesLess s t=true then some (i,s) else some (j,t):=by rw [hstep,hsr,hbt];rfl
  conv=>whnf
  refine ⟨_,⟨rfl,j,by rw [hbt];rfl,by simpa using hjl,⟨rfl,rfl⟩⟩,?_⟩
  repeat' first|exact True.intro|refine And.intro (a:=chkPast _ _ _ _ _ _ _ _) ?_ ?_|fail
  conv=>whnf
  refine ⟨_,⟨_,hgj,⟨rfl,rfl⟩⟩,?_⟩
  repeat' first|exact True.intro|(refine fun (b:Bool) hb=>?_;cases b<;>first|exact absurd hb (by decide)|exact nfl hb|exact nfr hb|skip)|refine And.intro (a:=I64 _) ?_ ?_|refine ⟨_,⟨rfl,rfl⟩,?_⟩|refine And.intro (a:=chkPast _ _ _ _ _ _ _ _) ?_ ?_|refine ⟨_,⟨_,rfl,?_,rfl,rfl,rfl⟩,?_⟩|fail
  all_goals first|exact hpj|(unfold I64;omega)|skip
  ·have hb2:Op.bytesLess q[i][0] q[j][0]=false:=by assumption
   rw [hi0,hj0] at hb2
   rw [hb2] at hstep2
   refine ⟨i+1,?_,hlt,by show q.length-(i+1)<q.length-i;omega⟩
   rw [hstep2,hbt]
   exact (by (refine qa_ ?_;refine Sel4.mk rfl rfl ?_ ?_<;>(repeat' first|exact True.intro|exact rfl|exact .inl rfl|exact .inr rfl|refine And.intro ?_ ?_|fail)))
  ·have hb2:Op.bytesLess q[i][0] q[j][0]=true:=by assumption
   rw [hi0,hj0] at hb2
   rw [hb2] at hstep2
   refine ⟨i+1,?_,hlt,by show q.length-(i+1)<q.length-i;omega⟩
   rw [hstep2]
   exact (by (refine qa_ ?_;refine Sel4.mk rfl rfl ?_ ?_<;>(repeat' first|exact True.intro|exact rfl|exact .inl rfl|exact .inr rfl|refine And.intro ?_ ?_|fail)))
 ·unfold I64;omega
 ·have h:(0:Int)<(q[i].length:Int):=of_decide_eq_true (by assumption)
  have hb:bestI (best q i)<0:=of_decide_eq_true (by assumption)
  have hn:best q i=none:=by
   cases hq:best q i with
   | none=>rfl
   | some x =>
    obtain ⟨j,s⟩:=x
    rw [hq] at hb
    have hb:(j:Int)<0:=hb
    omega
  obtain ⟨s,r,hsr⟩:∃ s r,q[i]=s::r:=by
   cases hq:q[i] with
   | nil=>rw [hq] at h;simp at h
   | cons s r=>exact ⟨s,r,rfl⟩
  refine ⟨i+1,?_,hlt,by show q.length-(i+1)<q.length-i;omega⟩
  have e:best q (i+1)=some (i,s):=by rw [hstep,hsr,hn];rfl
  rw [e]
  exact (by (refine qa_ ?_;refine Sel4.mk rfl rfl ?_ ?_<;>(repeat' first|exact True.intro|exact rfl|exact .inl rfl|exact .inr rfl|refine And.intro ?_ ?_|fail)))
end Gv
namespace Gv
variable [Glob] [Laid] [Errs]
theorem qq6_:callable Tryz.prog 219=true:=by kernel_rfl
def atoiS_S:Spec:=fun args K=>∃ (s:Bs),args=[.str s]∧s.length≤140737488355328∧(∀ k,Lib.atoiAll s=.ok k→K (.tup [.int .i64 k,.raw .nilIface]))∧∀ n T b,(∀ k,Lib.atoiAll s≠.ok k)→K (.tup [.int .i64 n,.raw (.iface T (.pointer (some ⟨b,0,none⟩)))])
theorem qpz_:Pure Tryz.prog 219 atoiS_S:=by
 intro w m args us K hm hg hv hT
 obtain ⟨s,rfl,h1,hok,herr⟩:=hT
 obtain ⟨a,rfl,ha⟩:=args1 hv.1 hv.2
 obtain ⟨rfl,-⟩:=z1_ ha
 have hgw:Sub Glob.mem w:=fun b o e=>hm b o (hg b o e)
 have two:∀ {m:Mem} {n:Int} {u:Value},VR m noLoc (.tup [.int .i64 n,.raw u]) (.tuple #[.int .i64 n,u]):=fun {m n u}=>by
  have h:VRL m noLoc [.int .i64 n,.raw u] [.int .i64 n,u]:=VRL.cons .int (VRL.cons .raw VRL.nil)
  exact .tup h.len h.el
 cases h:Lib.atoiAll s with
 | ok v =>
  refine (Tryz.strconv_Atoi_ok (ba s) (by rw [za_];omega) v h w).mono fun e w' ⟨he,hw⟩=>?_
  refine ⟨_,_,he,Bel.of_below ?_,hok v h,two⟩
  rcases hw with rfl|⟨t,rfl⟩
  ·exact RowKit.Below.refl _ _
  ·exact Lib.bytesWorld_below _ _ _
 | range =>
  obtain ⟨tp,pv,e1⟩:=Errs.rng w hgw
  refine (Tryz.strconv_Atoi_range_var (ba s) (by rw [za_];omega) h tp pv w e1).mono fun e w' ⟨N,he,_,_,hw⟩=>?_
  exact ⟨_,_,he,Bel.of_below hw,herr _ _ _ (fun k=>by rw [h];intro x;cases x),two⟩
 | _ =>
  obtain ⟨tp,pv,e1⟩:=Errs.syn w hgw
  refine (Tryz.strconv_Atoi_syntax_var (ba s) (by rw [za_];omega) h tp pv w e1).mono fun e w' ⟨N,he,_,_,hw⟩=>?_
  exact ⟨_,_,he,Bel.of_below hw,herr _ _ _ (fun k=>by rw [h];intro x;cases x),two⟩
end Gv
namespace Gv
variable [Glob] [Laid] [Errs] [Nums]
theorem qtb_:callable Tryz.prog 168=true:=by kernel_rfl
def sumJ_S:Spec:=fun args K=>∃ p:List (List Bs),args=[.sl lsV p]∧(p.length≤1000∧∀ l∈p,∀ s∈l,s.length≤1000000000)∧K (.int .i64 (sumN p p.length))
noncomputable def sumJ_lib:List (Nat × Spec):=[(219,atoiS_S),(150,itoa_S)]
noncomputable def sumJ_fns:List (Nat × FnI):=[]
noncomputable def sumJ_prims:List (Nat × PSpec):=[]
theorem qu1_:EnvOK ⟨Tryz.prog,tys,sumJ_lib,sumJ_fns,sumJ_prims,[]⟩:=qf_ mixed0 tys0 (.cons qq6_ qpz_ (.cons w9_ qba_ .nil)) .nil .nil rfl
theorem qs2_:Pure Tryz.prog 168 sumJ_S:=by
 refine qe_ qu1_ 6 (fi:={fn:=Tryz.f168,hooks:=[],draws:=[(7,[0,1,3,7,15,31,63,127,255,511,1023,2047,4095,2047,10239,26623,65535,131071])]}) ⟨Tryz.func168,by kernel_rfl,by kernel_rfl⟩ ?_
 rintro _ K ⟨p,rfl,⟨hp1,hp2⟩,hK⟩
 replace hK:∀ r,r=.int .i64 (sumN p p.length)→K r:=fun r h=>h ▸ hK
 repeat' first|(refine fun (hl:_≤MAXL)=>?_)|fail
 conv=>whnf
 refine qb_ [8,9] (σ:=Nat × Int) (fun s=>[(10,.int .i64 s.1),(3,.int .i64 s.2)]) (fun s=>[]) (fun s=>s.1≤p.length∧s.2=sumN p s.1) (fun s=>p.length-s.1) (0,0) ?_
 conv=>whnf
 refine ⟨(by (refine qa_ ?_;refine Sel4.mk rfl rfl ?_ ?_<;>(repeat' first|exact True.intro|exact rfl|exact .inl rfl|exact .inr rfl|refine And.intro ?_ ?_|fail))),⟨Nat.zero_le _,rfl⟩,fun s hs=>?_⟩
 obtain ⟨i,acc⟩:=s
 obtain ⟨hi,hacc⟩:=hs
 dsimp only at hi hacc
 have hbd:=yh_ p i
 rw [←hacc] at hbd
 repeat' first|(refine fun (b:Bool) hb=>?_;cases b<;>first|exact absurd hb (by decide)|exact nfl hb|exact nfr hb|skip)|(refine fun (hl:_≤MAXL)=>?_)|refine And.intro (a:=I64 _) ?_ ?_|refine ⟨_,rfl,?_,rfl,?_⟩|fail
 ·have hge:¬ (i:Int)<(p.length:Int):=of_decide_eq_false (by assumption)
  have ei:i=p.length:=by omega
  conv=>whnf
  exact hK _ (by rw [hacc,ei])
 ·have h:=of_decide_eq_true (by assumption:decide ((i:Int)<(p.length:Int))=true)
  show i<p.length
  omega
 all_goals have hlt:i<p.length:=by (have h:=of_decide_eq_true (by assumption:decide ((i:Int)<(p.length:Int))=true);omega)
 all_goals have hgd:p.getD i []=p[i]:=by (rw [List.getD_eq_getElem?_getD,List.getElem?_eq_getElem hlt];rfl)
 all_goals have hnx:sumN p (i+1)=sumN p i+numH p[i]:=by rw [sumN,hgd]
 ·have h:¬ (p[i].length:Int)=0:=of_decide_eq_false (by assumption)
  have h0:0<p[i].length:=by omega
  exact h0
 ·have h:¬ (p[i].length:Int)=0:=of_decide_eq_false (by assumption)
  obtain ⟨s,r,hsr⟩:∃ s r,p[i]=s::r:=by
   cases hq:p[i] with
   | nil=>rw [hq] at h;simp at h
   | cons s r=>exact ⟨s,r,rfl⟩
  have hs0:∀ h:0<p[i].length,p[i][0]=s:=fun h=>by simp [hsr]
  have hp0:0<p[i].length:=by rw [hsr];exact Nat.succ_pos _
  have hsl:s.length≤1000000000:=hp2 _ (List.getElem_mem hlt) s (by rw [hsr];simp)
  have hnh:numH p[i]=numOf s:=by rw [hsr];rfl
  conv=>whnf
  refine ⟨p[i][0],rfl,by rw [hs0 hp0];omega,fun k hk=>?_,fun n T b hn=>?_⟩
  ·rw [hs0 hp0] at hk
   have hkb:=Lib.atoiAll_bounds hk
   have hno:numOf s=if 0≤k∧k≤4000∧Lib.itoa k=s then k else 0:=by unfold numOf;rw [hk]
   have hz:∀ h:¬ (0≤k∧k≤4000∧Lib.itoa k=s),sumN p (i+1)=sumN p i:=fun h=>by rw [hnx,hnh,hno,if_neg h];omega
   repeat' first|(refine fun (b:Bool) hb=>?_;cases b<;>first|exact absurd hb (by decide)|exact nfl hb|exact nfr hb|skip)|refine And.intro (a:=I64 _) ?_ ?_|refine ⟨_,⟨rfl,rfl⟩,?_⟩|fail
   ·unfold I64;omega
   ·have h:¬ (0:Int)≤k:=of_decide_eq_false (by assumption)
    exact ⟨(i+1,acc),(by (refine qa_ ?_;refine Sel4.mk rfl rfl ?_ ?_<;>(repeat' first|exact True.intro|exact rfl|exact .inl rfl|exact .inr rfl|refine And.intro ?_ ?_|fail))),⟨hlt,by show acc=_;rw [hz (fun e=>h e.1),hacc]⟩,by show p.length-(i+1)<p.length-i;omega⟩
   ·unfold I64;omega
   ·have h:¬ k≤4000:=of_decide_eq_false (by assumption)
    exact ⟨(i+1,acc),(by (refine qa_ ?_;refine Sel4.mk rfl rfl ?_ ?_<;>(repeat' first|exact True.intro|exact rfl|exact .inl rfl|exact .inr rfl|refine And.intro ?_ ?_|fail))),⟨hlt,by show acc=_;rw [hz (fun e=>h e.2.1),hacc]⟩,by show p.length-(i+1)<p.length-i;omega⟩
   apply Exists.intro
   apply And.intro
   ·refine ⟨k,rfl,hkb,?_⟩
    exact ⟨rfl,rfl⟩
   repeat' first|(refine fun (b:Bool) hb=>?_;cases b<;>first|exact absurd hb (by decide)|exact nfl hb|exact nfr hb|skip)|refine And.intro (a:=I64 _) ?_ ?_|refine ⟨_,⟨rfl,rfl⟩,?_⟩|refine ⟨_,⟨_,rfl,?_,rfl,rfl,rfl⟩,?_⟩|fail
   ·exact hp0
   ·unfold I64;omega
   ·have h:¬ Lib.itoa k=p[i][0]:=of_decide_eq_false (by assumption)
    rw [hs0 hp0] at h
    exact ⟨(i+1,acc),(by (refine qa_ ?_;refine Sel4.mk rfl rfl ?_ ?_<;>(repeat' first|exact True.intro|exact rfl|exact .inl rfl|exact .inr rfl|refine And.intro ?_ ?_|fail))),⟨hlt,by show acc=_;rw [hz (fun e=>h e.2.2),hacc]⟩,by show p.length-(i+1)<p.length-i;omega⟩
   ·have h2:k≤4000:=of_decide_eq_true (by assumption)
    unfold I64;omega
   ·unfold I64;omega
   ·have h:Lib.itoa k=p[i][0]:=of_decide_eq_true (by assumption)
    rw [hs0 hp0] at h
    have h1:(0:Int)≤k:=of_decide_eq_true (by assumption)
    have h2:k≤4000:=of_decide_eq_true (by assumption)
    exact ⟨(i+1,acc+k),(by (refine qa_ ?_;refine Sel4.mk rfl rfl ?_ ?_<;>(repeat' first|exact True.intro|exact rfl|exact .inl rfl|exact .inr rfl|refine And.intro ?_ ?_|fail))),⟨hlt,by show acc+k=_;rw [hnx,hnh,hno,if_pos ⟨h1,h2,h⟩,hacc]⟩,by show p.length-(i+1)<p.length-i;omega⟩
  ·rw [hs0 hp0] at hn
   have hno:numOf s=0:=by
    unfold numOf
    cases h:Lib.atoiAll s with
    | ok k=>exact absurd h (hn k)
    | _=>rfl
   repeat' first|refine And.intro (a:=I64 _) ?_ ?_|refine ⟨_,⟨rfl,rfl⟩,?_⟩|fail
   ·unfold I64;omega
   ·have e:sumN p (i+1)=sumN p i:=by rw [hnx,hnh,hno];omega
    exact ⟨(i+1,acc),(by (refine qa_ ?_;refine Sel4.mk rfl rfl ?_ ?_<;>(repeat' first|exact True.intro|exact rfl|exact .inl rfl|exact .inr rfl|refine And.intro ?_ ?_|fail))),⟨hlt,by show acc=_;rw [e,hacc]⟩,by show p.length-(i+1)<p.length-i;omega⟩
 ·unfold I64;omega
 ·have h:(p[i].length:Int)=0:=of_decide_eq_true (by assumption)
  have h0:p[i]=[]:=List.length_eq_zero_iff.1 (by omega)
  have e:sumN p (i+1)=sumN p i:=by rw [hnx,h0];show _+0=_;omega
  exact ⟨(i+1,acc),(by (refine qa_ ?_;refine Sel4.mk rfl rfl ?_ ?_<;>(repeat' first|exact True.intro|exact rfl|exact .inl rfl|exact .inr rfl|refine And.intro ?_ ?_|fail))),⟨hlt,by show acc=_;rw [e,hacc]⟩,by show p.length-(i+1)<p.length-i;omega⟩
end Gv
namespace Gv
variable [Glob] [Laid]
theorem qgw_:callable Tryz.prog 169=true:=by kernel_rfl
def concatSL_S:Spec:=fun args K=>∃ a:List (List Bs),args=[.sl lsV a]∧a.flatten.length≤1000000000∧K (.sl strV a.flatten)
noncomputable def concatSL_lib:List (Nat × Spec):=[]
noncomputable def concatSL_fns:List (Nat × FnI):=[(220,{fn:=Tryz.f220,hooks:=[],draws:=[]})]
noncomputable def concatSL_prims:List (Nat × PSpec):=[]
theorem qj5_:EnvOK ⟨Tryz.prog,tys,concatSL_lib,concatSL_fns,concatSL_prims,[]⟩:=qf_ mixed0 tys0 .nil (.cons (by kernel_rfl) ⟨Tryz.func220,by kernel_rfl,by kernel_rfl⟩ .nil) .nil rfl
theorem qhe_:Pure Tryz.prog 169 concatSL_S:=by
 refine qe_ qj5_ 6 (fi:={fn:=Tryz.f169,hooks:=[10],draws:=[]}) ⟨Tryz.func169,by kernel_rfl,by kernel_rfl⟩ ?_
 rintro _ K ⟨x,rfl,hx,hK⟩
 replace hK:∀ p,p=.sl strV x.flatten→K p:=fun r h=>h ▸ hK
 obtain ⟨f,hf⟩:∃ f:Nat→List Bs,∀ i,f i=(x.take i).flatten:=⟨_,fun _=>rfl⟩
 have f0:f 0=[]:=by simp [hf]
 have fS:∀ i (h:i<x.length),f (i+1)=f i++x[i]:=fun i h=>by
  rw [hf,hf,List.take_succ_eq_append_getElem h]
  simp only [List.flatten_append,List.flatten_cons,List.flatten_nil,List.append_nil]
 have fN:∀ i,x.length≤i→f i=x.flatten:=fun i h=>by simp [hf,List.take_of_length_le h]
 have fl:∀ i,(f i).length≤1000000000:=fun i=>by
  rw [←List.take_append_drop i x] at hx
  simp only [List.flatten_append,List.length_append] at hx
  rw [hf];omega
 clear hf
 refine fun (hl:_≤MAXL)=>?_
 conv=>whnf
 refine zj_ (σ:=Nat) (fun i=>[(0,.sl lsV x),(2,.nil),(9,.sl lsV x),(10,.int .i64 x.length),(11,.int .i64 i),(3,.int .i64 ((f i).length:Nat))]) (fun _=>[]) (fun i=>i≤x.length) (fun i=>x.length-i) 0 (qc_ [] rfl rfl trivial ?_) (Nat.zero_le _) ?_
 ·simp only [f0]
  (repeat' first|exact True.intro|exact rfl|exact .inl rfl|exact .inr rfl|refine And.intro ?_ ?_|fail)
 intro i hi
 have hs:=fl i
 repeat' first|(refine fun (b:Bool) hb=>?_;cases b<;>first|exact absurd hb (by decide)|exact nfl hb|exact nfr hb|skip)|(refine fun (hl:_≤MAXL)=>?_)|refine And.intro (a:=I64 _) ?_ ?_|refine ⟨_,rfl,?_,rfl,?_⟩|fail
 ·conv=>whnf
  refine we_ (σ:=Unit) (fun _=>[(0,.sl lsV x),(2,.nil),(6,.own 0)]) (fun _=>[.row 1 []]) (fun _=>True) ?_ ?_
  ·repeat' first|(refine fun (b:Bool) hb=>?_;cases b<;>first|exact absurd hb (by decide)|exact nfl hb|exact nfr hb|skip)|(refine fun (hl:_≤MAXL)=>?_)|refine And.intro (a:=I64 _) ?_ ?_|refine ⟨rfl,?_⟩|fail
   ·unfold I64;omega
   ·unfold I64;omega
   ·refine ⟨(),qc_ [none] rfl rfl trivial ?_,trivial⟩
    (repeat' first|exact True.intro|exact rfl|exact .inl rfl|exact .inr rfl|refine And.intro ?_ ?_|fail)
   ·refine ⟨(f i).length,by simp,by grind,by simp only [Nat.mul_one];omega,?_⟩
    refine fun _=>?_
    refine ⟨0,rfl,Nat.zero_le _,?_⟩
    refine ⟨(),qc_ [some 1] rfl rfl ⟨rfl,trivial⟩ ?_,trivial⟩
    (repeat' first|exact True.intro|exact rfl|exact .inl rfl|exact .inr rfl|refine And.intro ?_ ?_|fail)
  intro _ _
  refine fun (hl:_≤MAXL)=>?_
  conv=>whnf
  refine zj_ (σ:=Nat) (fun i=>[(0,.sl lsV x),(2,.nil),(6,.own 0),(25,.sl lsV x),(26,.int .i64 x.length),(27,.int .i64 i)]) (fun i=>[.row 1 ((f i).map strV)]) (fun i=>i≤x.length) (fun i=>x.length-i) 0 (qc_ [some 0] rfl rfl ⟨?_,trivial⟩ ?_) (Nat.zero_le _) ?_
  ·rw [f0];exact rfl
  ·(repeat' first|exact True.intro|exact rfl|exact .inl rfl|exact .inr rfl|refine And.intro ?_ ?_|fail)
  intro i hi
  have hs:=fl i
  repeat' first|refine ⟨_,_,_,LeL.refl _,?_⟩|(refine fun (b:Bool) hb=>?_;cases b<;>first|exact absurd hb (by decide)|exact nfl hb|exact nfr hb|skip)|refine And.intro (a:=I64 _) ?_ ?_|refine And.intro (a:=_≤140737488355328) ?_ ?_|refine ⟨_,rfl,?_,rfl,?_⟩|refine ⟨(fun _=>rfl),?_⟩|fail
  ·refine hK _ ?_
   rw [fN i (by grind)]
  ·grind
  ·have:=fl (i+1)
   rw [fS i (by grind)] at this
   simp only [List.length_append,List.length_map,lsV,elsOf] at this ⊢
   omega
  ·unfold I64;grind
  ·refine ⟨i+1,?_,?_,?_⟩
   ·refine qc_ [some 1] rfl rfl ⟨?_,trivial⟩ ?_
    ·rw [fS i (by grind),List.map_append]
     exact rfl
    ·(repeat' first|exact True.intro|exact rfl|exact .inl rfl|exact .inr rfl|refine And.intro ?_ ?_|fail)
   ·grind
   ·grind
 ·grind
 ·unfold I64;grind
 ·unfold I64;grind
 ·refine ⟨i+1,?_,?_,?_⟩
  ·refine qc_ [] rfl rfl trivial ?_
   rw [fS i (by grind)]
   simp only [List.length_append]
   (repeat' first|exact True.intro|exact rfl|exact .inl rfl|exact .inr rfl|refine And.intro ?_ ?_|fail)
  ·grind
  ·grind
end Gv
namespace Gv
variable [Glob] [Laid] [Errs] [Nums]
theorem qpw_:callable Tryz.prog 130=true:=by kernel_rfl
def joinL_S:Spec:=fun args K=>∃ (h:Int) (c:Cmd) (p:List (List Bs)),args=[.int .i64 h,cmdV c,.sl lsV p]∧((h=4→checkCmd c=0)∧p.length≤1000∧p.flatten.length≤900000000∧∀ l∈p,∀ s∈l,s.length≤900000000)∧K (.sl strV (joinB h c p))
noncomputable def joinL_lib:List (Nat × Spec):=[(167,mergeJ_S),(168,sumJ_S),(150,itoa_S),(91,linesC_S),(169,concatSL_S)]
noncomputable def joinL_fns:List (Nat × FnI):=[]
noncomputable def joinL_prims:List (Nat × PSpec):=[]
theorem qst_:EnvOK ⟨Tryz.prog,tys,joinL_lib,joinL_fns,joinL_prims,[]⟩:=qf_ mixed0 tys0 (.cons qmc_ qmv_ (.cons qtb_ qs2_ (.cons w9_ qba_ (.cons qbb_ qak_ (.cons qgw_ qhe_ .nil))))) .nil .nil rfl
theorem qqq_:Pure Tryz.prog 130 joinL_S:=by
 refine qe_ qst_ 6 (fi:={fn:=Tryz.f130,hooks:=[],draws:=[]}) ⟨Tryz.func130,by kernel_rfl,by kernel_rfl⟩ ?_
 rintro _ K ⟨h,c,p,rfl,⟨hc,hp1,hp2,hp3⟩,hK⟩
 replace hK:∀ r,r=.sl strV (joinB h c p)→K r:=fun r h=>h ▸ hK
 have hb:=yh_ p p.length
 unfold joinB at hK
 repeat' first|(refine fun (b:Bool) hb=>?_;cases b<;>first|exact absurd hb (by decide)|exact nfl hb|exact nfr hb|skip)|fail
 ·have h2:¬ h=2:=of_decide_eq_false (by assumption)
  have h3:¬ h=3:=of_decide_eq_false (by assumption)
  rw [if_neg h2,if_neg h3] at hK
  skip
  refine ⟨p,rfl,by omega,?_⟩
  repeat' first|(refine fun (b:Bool) hb=>?_;cases b<;>first|exact absurd hb (by decide)|exact nfl hb|exact nfr hb|skip)|fail
  ·have h4:¬ h=4:=of_decide_eq_false (by assumption)
   rw [if_neg h4] at hK
   exact hK _ rfl
  ·have h4:h=4:=of_decide_eq_true (by assumption)
   rw [if_pos h4] at hK
   refine ⟨c,p.flatten,rfl,⟨hc h4,hp2,fun s hs=>?_⟩,?_⟩
   ·obtain ⟨l,hl,hsl⟩:=List.mem_flatten.1 hs
    exact hp3 l hl s hsl
   skip
   exact hK _ rfl
 ·have h2:¬ h=2:=of_decide_eq_false (by assumption)
  have h3:h=3:=of_decide_eq_true (by assumption)
  rw [if_neg h2,if_pos h3] at hK
  skip
  refine ⟨p,rfl,⟨hp1,fun l hl s hs=>by have:=hp3 l hl s hs;omega⟩,?_⟩
  refine ⟨_,rfl,⟨by omega,by omega⟩,?_⟩
  skip
  refine ⟨Bs,strV,[Lib.itoa (sumN p p.length)],LeL.refl _,?_⟩
  exact hK _ rfl
 ·have h2:h=2:=of_decide_eq_true (by assumption)
  rw [if_pos h2] at hK
  skip
  refine ⟨p,rfl,⟨by omega,hp1⟩,?_⟩
  skip
  exact hK _ rfl
end Gv
