/- What functions of the program come to, part 1: in every world; the conditions stand in each theorem. -/
import Derived.Test.YtffljdmmambdjacGreatDoorVa
import Derived.Test.YtffljdmmambdjacGreatDoorVb
import Derived.Test.YtffljdmmambdjacGreatDoorVc
import Derived.Test.YtffljdmmambdjacGreatDoorVd
import Derived.Test.YtffljdmmambdjacGreatDoorVe
import Derived.Test.YtffljdmmambdjacGreatDoorVf
import Derived.Test.YtffljdmmambdjacGreatDoorProg
import Derived.Test.YtffljdmmambdjacGreatDoorSh
set_option linter.unusedVariables false
set_option linter.unusedSectionVars false
set_option linter.unusedSimpArgs false
set_option maxHeartbeats 16000000
open Go Go.Proofs Gw Gp
namespace Gv
theorem bsp {c:Bool} {P:Bool→Prop} (h1:c=false→P false) (h2:c=true→P true) (b:Bool) (h:c=b):P b:=by cases b;exact h1 h;exact h2 h
theorem nfl {P:Prop} (h:true=false):P:=by cases h
theorem nfr {P:Prop} (h:false=true):P:=by cases h
end Gv
namespace Gv
variable [Glob]
noncomputable def tys:List (Nat × TI) := [(2, ⟨(.int .i64 0), 1, 8, false, (.int .i64)⟩),
  (3,⟨(.int .i64 0),1,8,false,(.int .i64)⟩),
  (4,⟨(.bool false),1,1,false,.bool⟩),
  (5,⟨(.int .u8 0),1,1,false,(.int .u8)⟩),
  (9,⟨(.string ⟨#[]⟩),1,16,false,.str⟩),
  (20,⟨.nilIface,1,16,false,.iface⟩),
  (22,⟨(.slice none 0 0),1,24,false,(.slice 41)⟩),
  (24,⟨(.agg #[(.slice none 0 0)]),1,24,true,(.struct [(22,0)])⟩),
  (25,⟨(.slice none 0 0),1,24,false,(.slice 56)⟩),
  (26,⟨(.slice none 0 0),1,24,false,(.slice 50)⟩),
  (27,⟨(.slice none 0 0),1,24,false,(.slice 44)⟩),
  (28,⟨(.slice none 0 0),1,24,false,(.slice 5)⟩),
  (30,⟨(.agg #[(.slice none 0 0),(.slice none 0 0),(.slice none 0 0),(.slice none 0 0),(.slice none 0 0)]),5,120,true,(.struct [(24,0),(25,1),(26,2),(27,3),(28,4)])⟩),
  (31,⟨(.int .i64 0),1,8,false,(.int .i64)⟩),
  (38,⟨(.agg #[(.int .i64 0),(.string ⟨#[]⟩),(.int .i64 0)]),3,32,true,(.struct [(3,0),(9,1),(3,2)])⟩),
  (39,⟨(.slice none 0 0),1,24,false,(.slice 47)⟩),
  (41,⟨(.agg #[(.int .i64 0),(.string ⟨#[]⟩),(.int .i64 0),(.string ⟨#[]⟩),(.int .i64 0),(.int .i64 0),(.int .i64 0),(.slice none 0 0)]),8,96,true,(.struct [(3,0),(9,1),(38,2),(3,5),(3,6),(39,7)])⟩),
  (42,⟨(.slice none 0 0),1,24,false,(.slice 28)⟩),
  (44,⟨(.agg #[(.slice none 0 0),(.int .i64 0),(.slice none 0 0),(.bool false),(.bool false)]),5,64,true,(.struct [(42,0),(3,1),(42,2),(4,3),(4,4)])⟩),
  (45,⟨.nilFunc,1,8,false,.other⟩),
  (47,⟨(.agg #[(.int .i64 0),(.int .i64 0)]),2,16,true,(.struct [(3,0),(3,1)])⟩),
  (48,⟨.nilFunc,1,8,false,.other⟩),
  (50,⟨(.agg #[(.slice none 0 0),(.int .i64 0),(.bool false),(.bool false)]),4,40,true,(.struct [(28,0),(3,1),(4,2),(4,3)])⟩),
  (51,⟨.nilFunc,1,8,false,.other⟩),
  (53,⟨(.slice none 0 0),1,24,false,(.slice 3)⟩),
  (56,⟨(.agg #[(.string ⟨#[]⟩),(.slice none 0 0)]),2,40,true,(.struct [(9,0),(28,1)])⟩),
  (57,⟨(.slice none 0 0),1,24,false,(.slice 31)⟩),
  (65,⟨(.slice none 0 0),1,24,false,(.slice 9)⟩),
  (66,⟨(.slice none 0 0),1,24,false,(.slice 38)⟩),
  (68,⟨(.agg #[(.slice none 0 0),(.slice none 0 0),(.string ⟨#[]⟩)]),3,64,true,(.struct [(65,0),(66,1),(9,2)])⟩),
  (74,⟨(.slice none 0 0),1,24,false,(.slice 68)⟩),
  (95,⟨(.pointer none),1,8,false,.other⟩),
  (105,⟨.nilFunc,1,8,false,.other⟩),
  (110,⟨(.slice none 0 0),1,24,false,(.slice 42)⟩),
  (114,⟨(.pointer none),1,8,false,.other⟩),
  (116,⟨(.agg #[(.slice none 0 0),(.slice none 0 0)]),2,48,true,(.struct [(24,0),(39,1)])⟩),
  (124,⟨.nilFunc,1,8,false,.other⟩),
  (130,⟨.nilFunc,1,8,false,.other⟩),
  (139,⟨.nilFunc,1,8,false,.other⟩),
  (142,⟨(.map none),1,8,false,(.map 47 4)⟩),
  (145,⟨(.map none),1,8,false,(.map 47 3)⟩),
  (148,⟨(.pointer none),1,8,false,.other⟩),
  (149,⟨(.pointer none),1,8,false,.other⟩),
  (150,⟨.nilFunc,1,8,false,.other⟩),
  (153,⟨(.pointer none),1,8,false,.other⟩),
  (158,⟨.nilFunc,1,8,false,.other⟩),
  (167,⟨(.slice none 0 0),1,24,false,(.slice 65)⟩),
  (172,⟨.nilFunc,1,8,false,.other⟩),
  (174,⟨.nilFunc,1,8,false,.other⟩),
  (186,⟨(.int .u64 0),1,8,false,(.int .u64)⟩),
  (199,⟨(.map none),1,8,false,(.map 3 9)⟩),
  (237,⟨.nilIface,1,16,false,.iface⟩),
  (267,⟨(.pointer none),1,8,false,.other⟩),
  (272,⟨(.int .i64 0),1,8,false,(.int .i64)⟩),
  (295,⟨(.int .u64 0),1,8,false,(.int .u64)⟩)]
theorem qt_:(Tryz.prog).follows .mixedOrders=true:=by kernel_rfl
theorem tys0:zb7_ Tryz.prog tys:=zdr_ (by kernel_rfl)
class Laid:Prop where
 maxlen:∀ w,Sub Glob.mem w→∃ n,w.cell? ⟨0,0,none⟩=some (.int .i64 n)
class Nums:Prop where
 pow10 : ∀ w, Sub Glob.mem w → Lib.TabIs Tryz.prog w "internal/strconv.uint64pow10" .u64 Lib.pow10Tab
class Errs:Prop where
 syn : ∀ w, Sub Glob.mem w → ∃ tp p, w.var? Tryz.prog "strconv.ErrSyntax" = some #[.iface tp p]
 rng : ∀ w, Sub Glob.mem w → ∃ tp p, w.var? Tryz.prog "strconv.ErrRange" = some #[.iface tp p]
end Gv
namespace Gv
variable [Glob] [Laid]
theorem qm5_ {N:List Gp.Node} {p:Port} {j k:Nat} (hj:j<N.length) (hp:p ∉ qr_ (N.take j)) (hk:k<N[j].ins.length) (hq:p ∉ N[j].ins.take k) (he:p=N[j].ins[k]):ye_ N p=insB N j+k∧insB N j+k<(qr_ N).length:=by
 have h1:qr_ N=qr_ (N.take j)++(N[j].ins.take k++(p::(N[j].ins.drop (k+1)++qr_ (N.drop (j+1))))):=by
  conv=>lhs;rw [←List.take_append_drop j N,zz_,List.drop_eq_getElem_cons hj]
  rw [show qr_ (N[j]::N.drop (j+1))=N[j].ins++qr_ (N.drop (j+1)) from rfl]
  conv=>lhs;rw [←List.take_append_drop k N[j].ins,List.drop_eq_getElem_cons hk,←he]
  simp
 have h2:(N[j].ins.take k).length=k:=by rw [List.length_take];omega
 refine ⟨?_,?_⟩
 ·unfold ye_ insB
  rw [h1,List.idxOf_append,if_neg hp,List.idxOf_append,if_neg hq,List.idxOf_cons_self,h2]
  omega
 ·rw [h1]
  simp only [List.length_append,List.length_cons,h2]
  unfold insB
  omega
theorem qqs_ {N:List Gp.Node} {p:Port} (h:p ∉ qr_ N):¬ ye_ N p<(qr_ N).length:=fun e=>h (List.idxOf_lt_length_iff.1 e)
theorem qhz_:qb_ Tryz.prog 122=true:=by kernel_rfl
def qfu_:Spec:=fun args K=>∃ (N:List Gp.Node) (p:Port),args=[.agg [.sl qh_ N],ww_ p]∧(qr_ N).length≤1000000000∧K (.int .i64 (if ye_ N p<(qr_ N).length then (ye_ N p:Int) else -1))
noncomputable def qqr_:List (Nat × Spec):=[]
noncomputable def qqq_:List (Nat × FnI):=[]
noncomputable def qj0_:List (Nat × qn_):=[]
theorem q16_:EnvOK ⟨Tryz.prog,tys,qqr_,qqq_,qj0_,[(47,[true,true])]⟩:=qs_ qt_ tys0 .nil .nil .nil (by kernel_rfl)
theorem qh0_:Pure Tryz.prog 122 qfu_:=by
 refine qp_ q16_ 6 (fi:={fn:=Tryz.f122,hooks:=[],draws:=[]}) ⟨Tryz.func122,by kernel_rfl,by kernel_rfl⟩ ?_
 rintro _ K ⟨N,p,rfl,hn,hK⟩
 replace hK:∀ r,r=.int .i64 (if ye_ N p<(qr_ N).length then (ye_ N p:Int) else -1)→K r:=fun r h=>h ▸ hK
 repeat' first|(refine fun (hl:_≤MAXL)=>?_)|fail
 conv=>whnf
 refine qg_ [3,11,12] (σ:=Nat) (fun j=>[(13,.int .i64 j),(5,.int .i64 (insB N j:Nat))]) (fun _=>[.box [.sl qh_ N],.box [.int .i64 p.node,.int .i64 p.out]]) (fun j=>j≤N.length∧p ∉ qr_ (N.take j)) (fun j=>N.length-j) 0 ?_
 conv=>whnf
 refine ⟨(by (refine qf_ [some 0,some 1] rfl rfl ?_ ?_<;>(repeat' first|exact True.intro|exact rfl|exact .inl rfl|exact .inr rfl|refine And.intro ?_ ?_|fail))),⟨Nat.zero_le _,by simp [qr_]⟩,fun j hj=>?_⟩
 obtain ⟨hj,hp⟩:=hj
 repeat' first|(refine fun (b:Bool) hb=>?_;cases b<;>first|exact absurd hb (by decide)|exact nfl hb|exact nfr hb|skip)|(refine fun (hl:_≤MAXL)=>?_)|refine ⟨_,rfl,?_,rfl,?_⟩|fail
 ·have hjl:j=N.length := by
   have h:=of_decide_eq_false (by assumption:decide ((j:Int)<(N.length:Int))=false)
   omega
  subst hjl
  rw [List.take_length] at hp
  conv=>whnf
  exact hK _ (by rw [if_neg (qqs_ hp)])
 ·have h:=of_decide_eq_true (by assumption:decide ((j:Int)<(N.length:Int))=true)
  omega
 have hj2:j<N.length:=by
  have h:=of_decide_eq_true (by assumption:decide ((j:Int)<(N.length:Int))=true)
  omega
 have hnj:insB N (j+1)=insB N j+N[j].ins.length:=by
  unfold insB
  rw [List.take_succ_eq_append_getElem hj2,zz_,List.length_append]
  simp [qr_]
 have hall:insB N (j+1)≤(qr_ N).length:=by
  unfold insB
  conv=>rhs;rw [←List.take_append_drop (j+1) N,zz_,List.length_append]
  omega
 conv=>whnf
 refine qg_ [3,11,12,13,18,19] (σ:=Nat) (fun k=>[(20,.int .i64 k),(5,.int .i64 ((insB N j+k:Nat):Int))]) (fun _=>[.box [.sl qh_ N],.box [.int .i64 p.node,.int .i64 p.out]]) (fun k=>k≤N[j].ins.length∧p ∉ N[j].ins.take k) (fun k=>N[j].ins.length-k) 0 ?_
 conv=>whnf
 refine ⟨(by (refine qf_ [some 0,some 1] rfl rfl ?_ ?_<;>(repeat' first|exact True.intro|exact rfl|exact .inl rfl|exact .inr rfl|refine And.intro ?_ ?_|fail))),⟨Nat.zero_le _,by simp⟩,fun k hk=>?_⟩
 obtain ⟨hk,hq⟩:=hk
 repeat' first|(refine fun (b:Bool) hb=>?_;cases b<;>first|exact absurd hb (by decide)|exact nfl hb|exact nfr hb|skip)|refine And.intro (a:=I64 _) ?_ ?_|refine ⟨_,rfl,?_,rfl,?_⟩|fail
 ·have hM:N.length≤MAXL:=by assumption
  unfold I64;unfold MAXL at hM;omega
 ·have hkl:k=N[j].ins.length := by
   have h:=of_decide_eq_false (by assumption:decide ((k:Int)<(N[j].ins.length:Int))=false)
   omega
  subst hkl
  rw [List.take_length] at hq
  refine ⟨j+1,?_,⟨by omega,?_⟩,by omega⟩
  ·show Wk _ _ _ ([(13,.int .i64 ((j+1:Nat):Int)),(5,.int .i64 ((insB N (j+1):Nat):Int))]++_) _
   rw [hnj]
   exact (by (refine qf_ [some 0,some 1] rfl rfl ?_ ?_<;>(repeat' first|exact True.intro|exact rfl|exact .inl rfl|exact .inr rfl|refine And.intro ?_ ?_|fail)))
  ·rw [List.take_succ_eq_append_getElem hj2,zz_]
   intro h
   rcases List.mem_append.1 h with h|h
   ·exact hp h
   ·exact hq (by simpa [qr_] using h)
 ·have h:=of_decide_eq_true (by assumption:decide ((k:Int)<(N[j].ins.length:Int))=true)
  omega
 all_goals
  have hk2:k<N[j].ins.length:=by
   have h:=of_decide_eq_true (by assumption:decide ((k:Int)<(N[j].ins.length:Int))=true)
   omega
 ·unfold I64;omega
 ·unfold I64;omega
 ·refine ⟨k+1,(by (refine qf_ [some 0,some 1] rfl rfl ?_ ?_<;>(repeat' first|exact True.intro|exact rfl|exact .inl rfl|exact .inr rfl|refine And.intro ?_ ?_|fail))),⟨by omega,?_⟩,by omega⟩
  rw [List.take_succ_eq_append_getElem hk2]
  intro h
  rcases List.mem_append.1 h with h|h
  ·exact hq h
  ·have e:p=N[j].ins[k]:=by simpa using h
   have e1:p.node=N[j].ins[k].node:=by rw [←e]
   have e2:p.out=N[j].ins[k].out:=by rw [←e]
   simp_all
 ·have e:p=N[j].ins[k] := by
   have h1:p.node=N[j].ins[k].node∧p.out=N[j].ins[k].out:=by grind
   rcases hx:N[j].ins[k] with ⟨a,b⟩
   rcases p with ⟨c,d⟩
   rw [hx] at h1
   simp only at h1
   rw [h1.1,h1.2]
  obtain ⟨r1,r2⟩:=qm5_ hj2 hp hk2 hq e
  conv=>whnf
  refine hK _ ?_
  rw [r1,if_pos r2]
end Gv
namespace Gv
variable [Glob] [Laid]
def zp_ (p:PipeS):Int :=
 if p.room<0∨1000<p.room then 3 else if (0<p.room∧p.room<p.b.length)∨40000<p.b.length then 2 else if p.shut=true∧0<p.b.length then 4 else 0
theorem qbr_:qb_ Tryz.prog 21=true:=by kernel_rfl
def qcu_:Spec:=fun args K=>∃ p,args=[qk_ p]∧K (.int .i64 (zp_ p))
noncomputable def qyb_:List (Nat × Spec):=[]
noncomputable def qya_:List (Nat × FnI):=[]
noncomputable def qor_:List (Nat × qn_):=[]
theorem q9b_:EnvOK ⟨Tryz.prog,tys,qyb_,qya_,qor_,[]⟩:=qs_ qt_ tys0 .nil .nil .nil rfl
theorem qbs_:Pure Tryz.prog 21 qcu_:=by
 refine qp_ q9b_ 6 (fi:={fn:=Tryz.f21,hooks:=[],draws:=[]}) ⟨Tryz.func21,by kernel_rfl,by kernel_rfl⟩ ?_
 rintro _ K ⟨p,rfl,hK⟩
 replace hK:∀ r,r=.int .i64 (zp_ p)→K r:=fun r h=>h ▸ hK
 repeat' first|(refine fun (b:Bool) hb=>?_;cases b<;>first|exact absurd hb (by decide)|exact nfl hb|exact nfr hb|skip)|(refine fun (hl:_≤MAXL)=>?_)|fail
 all_goals (refine hK _ ?_;simp only [zp_];congr 1;grind)
end Gv
namespace Gv
variable [Glob] [Laid]
theorem x1_:qb_ Tryz.prog 66=true:=by kernel_rfl
def yg_:Spec:=fun args K=>∃ a:List UInt8,args=[.sl qd_ a]∧a.length≤1000000000∧K (.sl qd_ a)
noncomputable def quq_:List (Nat × Spec):=[]
noncomputable def qup_:List (Nat × FnI):=[]
noncomputable def qlg_:List (Nat × qn_):=[]
theorem q4k_:EnvOK ⟨Tryz.prog,tys,quq_,qup_,qlg_,[]⟩:=qs_ qt_ tys0 .nil .nil .nil rfl
theorem x2_:Pure Tryz.prog 66 yg_:=by
 refine qp_ q4k_ 6 (fi:={fn:=Tryz.f66,hooks:=[],draws:=[]}) ⟨Tryz.func66,by kernel_rfl,by kernel_rfl⟩ ?_
 rintro _ K ⟨x,rfl,hx,hK⟩
 replace hK:∀ p,p=.sl qd_ x→K p:=fun r h=>h ▸ hK
 repeat' first|refine ⟨_,_,_,LeL.refl _,?_⟩|(refine fun (b:Bool) hb=>?_;cases b<;>first|exact absurd hb (by decide)|exact nfl hb|exact nfr hb|skip)|refine And.intro (a:=_≤140737488355328) ?_ ?_|refine ⟨(fun _=>rfl),?_⟩|refine ⟨UInt8,qd_,?_⟩|fail
 ·simp
  omega
 ·exact hK _ rfl
 ·rename_i h
  have e:=h rfl
  subst e
  exact hK _ rfl
end Gv
namespace Gv
variable [Glob] [Laid]
theorem yz_:qb_ Tryz.prog 214=true:=by kernel_rfl
def y5_:Spec:=fun args K=>∃ a:List (List UInt8),args=[.sl blV a]∧a.flatten.length≤1000000000∧K (.sl qd_ a.flatten)
noncomputable def qo0_:List (Nat × Spec):=[]
noncomputable def qoz_:List (Nat × FnI):=[(250,{fn:=Tryz.f250,hooks:=[],draws:=[]})]
noncomputable def qit_:List (Nat × qn_):=[]
theorem qyj_:EnvOK ⟨Tryz.prog,tys,qo0_,qoz_,qit_,[]⟩:=qs_ qt_ tys0 .nil (.cons (by kernel_rfl) ⟨Tryz.func250,by kernel_rfl,by kernel_rfl⟩ .nil) .nil rfl
theorem y0_:Pure Tryz.prog 214 y5_:=by
 refine qp_ qyj_ 6 (fi:={fn:=Tryz.f214,hooks:=[10],draws:=[]}) ⟨Tryz.func214,by kernel_rfl,by kernel_rfl⟩ ?_
 rintro _ K ⟨x,rfl,hx,hK⟩
 replace hK:∀ p,p=.sl qd_ x.flatten→K p:=fun r h=>h ▸ hK
 obtain ⟨f,hf⟩:∃ f:Nat→List UInt8,∀ i,f i=(x.take i).flatten:=⟨_,fun _=>rfl⟩
 have f0:f 0=[]:=by simp [hf]
 have fS:∀ i (h:i<x.length),f (i+1)=f i++x[i]:=fun i h=>by
  rw [hf,hf,List.take_succ_eq_append_getElem h]
  simp only [List.flatten_append,List.flatten_cons,List.flatten_nil,List.append_nil]
 have fN:∀ i,x.length≤i→f i=x.flatten:=fun i h=>by simp [hf,List.take_of_length_le h]
 have fl:∀ i,(f i).length≤1000000000:=fun i=>by
  rw [←List.take_append_drop i x] at hx
  simp only [List.flatten_append,List.length_append] at hx
  rw [hf];omega
 clear hf
 refine fun (hl:_≤MAXL)=>?_
 conv=>whnf
 refine yc_ (σ:=Nat) (fun i=>[(0,.sl blV x),(2,.nil),(9,.sl blV x),(10,.int .i64 x.length),(11,.int .i64 i),(3,.int .i64 ((f i).length:Nat))]) (fun _=>[]) (fun i=>i≤x.length) (fun i=>x.length-i) 0 (qf_ [] rfl rfl trivial ?_) (Nat.zero_le _) ?_
 ·simp only [f0]
  (repeat' first|exact True.intro|exact rfl|exact .inl rfl|exact .inr rfl|refine And.intro ?_ ?_|fail)
 intro i hi
 have hs:=fl i
 repeat' first|(refine fun (b:Bool) hb=>?_;cases b<;>first|exact absurd hb (by decide)|exact nfl hb|exact nfr hb|skip)|(refine fun (hl:_≤MAXL)=>?_)|refine And.intro (a:=I64 _) ?_ ?_|refine ⟨_,rfl,?_,rfl,?_⟩|fail
 ·conv=>whnf
  refine qda_ (σ:=Unit) (fun _=>[(0,.sl blV x),(2,.nil),(6,.own 0)]) (fun _=>[.row 1 []]) (fun _=>True) ?_ ?_
  ·repeat' first|(refine fun (b:Bool) hb=>?_;cases b<;>first|exact absurd hb (by decide)|exact nfl hb|exact nfr hb|skip)|(refine fun (hl:_≤MAXL)=>?_)|refine And.intro (a:=I64 _) ?_ ?_|refine ⟨rfl,?_⟩|fail
   ·unfold I64;omega
   ·unfold I64;omega
   ·refine ⟨(),qf_ [none] rfl rfl trivial ?_,trivial⟩
    (repeat' first|exact True.intro|exact rfl|exact .inl rfl|exact .inr rfl|refine And.intro ?_ ?_|fail)
   ·refine ⟨(f i).length,by simp,by grind,by simp only [Nat.mul_one];omega,?_⟩
    refine fun _=>?_
    refine ⟨0,rfl,Nat.zero_le _,?_⟩
    refine ⟨(),qf_ [some 1] rfl rfl ⟨rfl,trivial⟩ ?_,trivial⟩
    (repeat' first|exact True.intro|exact rfl|exact .inl rfl|exact .inr rfl|refine And.intro ?_ ?_|fail)
  intro _ _
  refine fun (hl:_≤MAXL)=>?_
  conv=>whnf
  refine yc_ (σ:=Nat) (fun i=>[(0,.sl blV x),(2,.nil),(6,.own 0),(25,.sl blV x),(26,.int .i64 x.length),(27,.int .i64 i)]) (fun i=>[.row 1 ((f i).map qd_)]) (fun i=>i≤x.length) (fun i=>x.length-i) 0 (qf_ [some 0] rfl rfl ⟨?_,trivial⟩ ?_) (Nat.zero_le _) ?_
  ·rw [f0];exact rfl
  ·(repeat' first|exact True.intro|exact rfl|exact .inl rfl|exact .inr rfl|refine And.intro ?_ ?_|fail)
  intro i hi
  have hs:=fl i
  repeat' first|refine ⟨_,_,_,LeL.refl _,?_⟩|(refine fun (b:Bool) hb=>?_;cases b<;>first|exact absurd hb (by decide)|exact nfl hb|exact nfr hb|skip)|refine And.intro (a:=I64 _) ?_ ?_|refine And.intro (a:=_≤140737488355328) ?_ ?_|refine ⟨_,rfl,?_,rfl,?_⟩|refine ⟨(fun _=>rfl),?_⟩|fail
  ·refine hK _ ?_
   rw [fN i (by grind)]
  ·grind
  ·have:=fl (i+1)
   rw [fS i (by grind)] at this
   simp only [List.length_append,List.length_map,blV,qey_] at this ⊢
   omega
  ·unfold I64;grind
  ·refine ⟨i+1,?_,?_,?_⟩
   ·refine qf_ [some 1] rfl rfl ⟨?_,trivial⟩ ?_
    ·rw [fS i (by grind),List.map_append]
     exact rfl
    ·(repeat' first|exact True.intro|exact rfl|exact .inl rfl|exact .inr rfl|refine And.intro ?_ ?_|fail)
   ·grind
   ·grind
 ·grind
 ·unfold I64;grind
 ·unfold I64;grind
 ·refine ⟨i+1,?_,?_,?_⟩
  ·refine qf_ [] rfl rfl trivial ?_
   rw [fS i (by grind)]
   simp only [List.length_append]
   (repeat' first|exact True.intro|exact rfl|exact .inl rfl|exact .inr rfl|refine And.intro ?_ ?_|fail)
  ·grind
  ·grind
end Gv
namespace Gv
variable [Glob] [Laid]
def w6_:PipeS:=⟨[],0,false,false⟩
def xd_ (p:PipeS) (n:Nat):Int:=min (if 0<p.room then min (n:Int) (p.room-p.b.length) else n) (40000-p.b.length)
def ze_ (p:PipeS) (b:List UInt8):PipeS × Int × Int :=
 if zp_ p≠0 then (w6_,0,zp_ p) else if p.closed=true then (w6_,0,7) else if p.shut=true then (p,b.length,0) else
  ({p with b:=p.b++b.take (xd_ p b.length).toNat},xd_ p b.length,0)
theorem xq_ {p:PipeS} (h:zp_ p=0):p.b.length≤40000∧0≤p.room∧p.room≤1000∧(0<p.room→p.b.length≤p.room):=by
 unfold zp_ at h
 grind
theorem q7z_:qb_ Tryz.prog 162=true:=by kernel_rfl
def q3n_:Spec:=fun args K=>∃ p b,args=[qk_ p,.sl qd_ b]∧b.length≤900000000∧K (.tup [qk_ (ze_ p b).1,.int .i64 (ze_ p b).2.1,.int .i64 (ze_ p b).2.2])
noncomputable def q3p_:List (Nat × Spec):=[(21,qcu_),(66,yg_),(214,y5_)]
noncomputable def q3o_:List (Nat × FnI):=[(213,{fn:=Tryz.f213,hooks:=[],draws:=[(5,[0,0,2,6,14,0,32,96,224,480,1022,2047,4095]),(7,[0,0,2,6,14,0,0,96,254,510,1023,2047,4095])]})]
noncomputable def qro_:List (Nat × qn_):=[]
theorem zb1_:EnvOK ⟨Tryz.prog,tys,q3p_,q3o_,qro_,[]⟩:=qs_ qt_ tys0 (.cons qbr_ qbs_ (.cons x1_ x2_ (.cons yz_ y0_ .nil))) (.cons (by kernel_rfl) ⟨Tryz.func213,by kernel_rfl,by kernel_rfl⟩ .nil) .nil rfl
theorem q70_:Pure Tryz.prog 162 q3n_:=by
 refine qp_ zb1_ 6 (fi:={fn:=Tryz.f162,hooks:=[],draws:=[]}) ⟨Tryz.func162,by kernel_rfl,by kernel_rfl⟩ ?_
 rintro _ K ⟨p,b,rfl,hb0,hK⟩
 replace hK:∀ r,r=.tup [qk_ (ze_ p b).1,.int .i64 (ze_ p b).2.1,.int .i64 (ze_ p b).2.2]→K r:=fun r h=>h ▸ hK
 refine ⟨p,rfl,?_⟩
 repeat' first|(refine fun (b:Bool) hb=>?_;cases b<;>first|exact absurd hb (by decide)|exact nfl hb|exact nfr hb|skip)|refine ⟨UInt8,qd_,?_⟩|fail
 ·have hc:zp_ p=0:=by grind
  have hs:=xq_ hc
  refine ⟨p.b,rfl,by omega,?_⟩
  have hn0:0≤xd_ p b.length:=by unfold xd_;grind
  have hn1:xd_ p b.length≤b.length:=by unfold xd_;grind
  repeat' first|exact True.intro|(refine fun (b:Bool) hb=>?_;cases b<;>first|exact absurd hb (by decide)|exact nfl hb|exact nfr hb|skip)|(refine fun (hl:_≤MAXL)=>?_)|refine And.intro (a:=I64 _) ?_ ?_|refine ⟨_,⟨rfl,rfl⟩,?_⟩|refine ⟨_,And.intro (a:=I64 _) ?_ ⟨rfl,rfl⟩,?_⟩|refine ⟨_,(fun _=>⟨rfl,rfl⟩),?_⟩|refine And.intro (a:=qj_ _ _ _ _ _ _ _ _) ?_ ?_|fail
  any_goals (unfold I64;omega)
  iterate 2
   rotate_left
   refine ⟨_,⟨fun _=>rfl,(xd_ p b.length).toNat,?_,?_,rfl,rfl⟩,?_⟩
   ·grind [xd_]
   ·omega
   skip
   refine ⟨_,⟨List UInt8,blV,[p.b,b.take (xd_ p b.length).toNat],LeL.refl _,rfl,rfl⟩,?_⟩
   refine ⟨_,⟨[p.b,b.take (xd_ p b.length).toNat],rfl,?_,rfl,rfl⟩,?_⟩
   ·simp
    omega
   repeat' first|exact True.intro|refine ⟨_,⟨rfl,rfl⟩,?_⟩|refine ⟨_,_,⟨rfl,rfl⟩,?_⟩|refine And.intro (a:=qx_ _ _ _ _ _ _) ?_ ?_|fail
   ·refine hK _ ?_
    have e:ze_ p b=(⟨p.b++b.take (xd_ p b.length).toNat,p.room,p.closed,p.shut⟩,xd_ p b.length,0):=by unfold ze_;grind
    rw [e]
    simp only [qk_,List.flatten_cons,List.flatten_nil,List.append_nil]
    congr 3
    grind [xd_]
  ·refine hK _ ?_
   grind [ze_,qk_]
 all_goals (refine hK _ ?_;grind [ze_,w6_,qk_])
end Gv
namespace Gv
variable [Glob] [Laid]
theorem z9_ (p:PipeS):zp_ p=qi_ p:=by
 unfold zp_ qi_
 have h:(0<p.b.length)↔p.b≠[]:=List.length_pos_iff
 simp only [h]
theorem qxi_ {p:PipeS} {b:Bs} (hb:b≠[]) :
  (((ze_ p b).2.2=0∧0<(ze_ p b).2.1)↔(qi_ p=0∧p.closed=false∧0<xs_ p b)) ∧
  (qi_ p=0→p.closed=false→(ze_ p b).1=wo_ p b∧(ze_ p b).2.1=(xs_ p b:Int)):=by
 have hbl:0<b.length:=List.length_pos_iff.2 hb
 unfold ze_
 rw [z9_]
 by_cases hc:qi_ p=0
 ·have hs:=xq_ ((z9_ p).trans hc)
  rw [if_neg (by rw [hc];decide)]
  cases hcl:p.closed with
  | true=>simp
  | false =>
   rw [if_neg (by decide)]
   cases hsh:p.shut with
   | true =>
    rw [if_pos rfl]
    unfold xs_ wo_
    rw [hsh,if_pos rfl,if_pos rfl]
    simp [hc,hbl]
   | false =>
    rw [if_neg (by decide)]
    have e:xd_ p b.length=(xs_ p b:Int):=by
     unfold xd_ xs_
     simp only [hsh,Bool.false_eq_true,if_false]
     by_cases hr:0<p.room
     ·have:=hs.2.2.2 hr
      simp only [hr,if_true]
      omega
     ·simp only [hr,if_false]
      omega
    dsimp only
    rw [e]
    unfold wo_
    rw [hsh,if_neg (by decide),Int.toNat_natCast]
    refine ⟨by constructor<;>(intro h;refine ⟨?_,?_⟩<;>first|exact hc|rfl|omega|(refine ⟨rfl,?_⟩;omega)),fun _ _=>⟨?_,rfl⟩⟩
    rcases p with ⟨pb,room,cl,sh⟩
    dsimp only at hcl hsh
    subst hcl hsh
    rfl
 ·rw [if_pos hc]
  simp [hc]
theorem qn0_:qb_ Tryz.prog 121=true:=by kernel_rfl
def qtu_:qn_:=fun args rows K=>∃ (m:MachS) (i:Nat) (els:List V),args=[.ptr 0 0 0,.int .i64 i]∧FocOK m i els∧rows=focR m i els∧(∀ k ex,k<(pr m i).out.length→canW m i k=true→(∀ j,j<k→canW m i j=false)→K (.lit true) (focR (doW m i k) i els++ex))∧((∀ k,k<(pr m i).out.length→canW m i k=false)→∀ ex,K (.lit false) (focR m i els++ex))
noncomputable def qxh_:List (Nat × Spec):=[(122,qfu_),(162,q3n_)]
noncomputable def qxg_:List (Nat × FnI):=[]
noncomputable def qn1_:List (Nat × qn_):=[]
theorem q7y_:EnvOK ⟨Tryz.prog,tys,qxh_,qxg_,qn1_,[]⟩:=qs_ qt_ tys0 (.cons qhz_ qh0_ (.cons q7z_ q70_ .nil)) .nil .nil rfl
theorem qrn_:q1_ Tryz.prog 121 qtu_:=by
 refine xm_ q7y_ 6 qn0_ (fi:={fn:=Tryz.f121,hooks:=[],draws:=[(8,[0,1,3,7,0,0,32,96,224,0,992,2016,4064,0,0,0,0,98304,24575,286719,1048575,2097151])]}) ⟨Tryz.func121,by kernel_rfl,by kernel_rfl⟩ ?_
 rintro args rows K ⟨m,i,els,rfl,h,rfl,hT,hF⟩
 have hei:(els.set i (q6_ (pr m i)))[i]?=some (q6_ (pr m i)):=List.getElem?_set_self (by rw [h.nl];exact h.lt)
 have hel:(els.set i (q6_ (pr m i))).length=m.g.length:=by rw [List.length_set,h.nl]
 have hpe:=h.pe
 unfold focR
 repeat' first|refine ⟨rfl,?_⟩|fail
 refine ⟨i,rfl,by rw [hel];exact h.lt,?_⟩
 conv=>whnf
 refine ⟨_,hei,?_⟩
 repeat' first|(refine fun (hl:_≤MAXL)=>?_)|fail
 conv=>whnf
 refine qg_ [0,1,18,19] (σ:=Nat) (fun k=>[(20,.int .i64 k)]) (fun _=>[.box [.sl qh_ m.g,.sl qq_ m.f,.own 1,.own 2,.sl qd_ m.sunk],.row 4 (m.pipes.map qk_),.rowq 5 (els.set i (q6_ (pr m i))),.row 1 ((pr m i).got.map blV),.row 1 ((pr m i).out.map blV)]) (fun k=>k≤(pr m i).out.length∧∀ j,j<k→canW m i j=false) (fun k=>(pr m i).out.length-k) 0 ?_
 conv=>whnf
 refine ⟨(by (refine qf_ [some 0,some 1,some 2,some 3,some 4] rfl rfl ?_ ?_<;>(repeat' (first|exact qw_ hpe rfl rfl|exact True.intro|exact rfl|exact Or.inl rfl|exact Or.inr rfl|refine And.intro ?_ ?_|fail)))),⟨Nat.zero_le _,fun j hj=>by omega⟩,fun k hk=>?_⟩
 obtain ⟨hk,hno⟩:=hk
 repeat' first|(refine fun (b:Bool) hb=>?_;cases b<;>first|exact absurd hb (by decide)|exact nfl hb|exact nfr hb|skip)|refine ⟨rfl,?_⟩|fail
 ·have hkl:k=(pr m i).out.length := by
   have h:=of_decide_eq_false (by assumption:decide ((k:Int)<(((pr m i).out.map blV).length:Int))=false)
   rw [List.length_map] at h
   omega
  subst hkl
  conv=>whnf
  exact hF hno []
 have hk2:k<(pr m i).out.length:=by
  have h:=of_decide_eq_true (by assumption:decide ((k:Int)<(((pr m i).out.map blV).length:Int))=true)
  rw [List.length_map] at h
  omega
 have hgk:((pr m i).out.map blV)[k]?=some (blV (pr m i).out[k]):=by rw [List.getElem?_map,List.getElem?_eq_getElem hk2];rfl
 have hok:outK m i k=(pr m i).out[k]:=by unfold outK;rw [List.getD_eq_getElem?_getD,List.getElem?_eq_getElem hk2];rfl
 refine ⟨k,rfl,by rw [List.length_map];exact hk2,?_⟩
 conv=>whnf
 refine ⟨_,hgk,?_⟩
 repeat' first|(refine fun (b:Bool) hb=>?_;cases b<;>first|exact absurd hb (by decide)|exact nfl hb|exact nfr hb|skip)|(refine fun (hl:_≤MAXL)=>?_)|refine And.intro (a:=I64 _) ?_ ?_|fail
 rotate_left
 ·have hM:((pr m i).out.map blV).length≤MAXL:=by assumption
  rw [List.length_map] at hM
  unfold I64;unfold MAXL at hM;omega
 ·have he:(pr m i).out[k]=[] := by
   have h:=of_decide_eq_true (by assumption:decide ((((pr m i).out[k]).length:Int)=0)=true)
   exact List.length_eq_zero_iff.1 (by omega)
  refine ⟨k+1,(by (refine qf_ [some 0,some 1,some 2,some 3,some 4] rfl rfl ?_ ?_<;>(repeat' (first|exact qw_ hpe rfl rfl|exact True.intro|exact rfl|exact Or.inl rfl|exact Or.inr rfl|refine And.intro ?_ ?_|fail)))),⟨by omega,fun j hj=>?_⟩,by omega⟩
  rcases Nat.lt_or_ge j k with h2|h2
  ·exact hno j h2
  ·obtain rfl:j=k:=by omega
   unfold canW
   rw [hok,he]
   simp
 have hne:(pr m i).out[k]≠[]:=by
  have h:=of_decide_eq_false (by assumption:decide ((((pr m i).out[k]).length:Int)=0)=false)
  intro e
  rw [e] at h
  exact h rfl
 have hrl:=qs9_ h hk2
 have hrq:rdr m i k<m.pipes.length:=by rw [h.nq];exact hrl
 have hgq:(m.pipes.map qk_)[rdr m i k]?=some (qk_ (qu m (rdr m i k))):=by
  rw [List.getElem?_map,List.getElem?_eq_getElem hrq]
  unfold qu
  rw [List.getD_eq_getElem?_getD,List.getElem?_eq_getElem hrq]
  rfl
 conv=>whnf
 refine ⟨m.g,⟨i,k⟩,rfl,z0_ h.g,?_⟩
 rw [show ye_ m.g ⟨(i:Int),(k:Int)⟩=rdr m i k from rfl,if_pos hrl]
 repeat' first|refine ⟨rfl,?_⟩|fail
 refine ⟨rdr m i k,rfl,by rw [List.length_map];exact hrq,?_⟩
 conv=>whnf
 refine ⟨_,hgq,?_⟩
 skip
 have hb9:((pr m i).out[k]).length≤900000000:=by
  have:=h.big (pr m i).out[k] (List.mem_append_right _ (List.getElem_mem hk2))
  omega
 refine ⟨qu m (rdr m i k),(pr m i).out[k],rfl,hb9,?_⟩
 obtain ⟨w1,w2⟩:=qxi_ (p:=qu m (rdr m i k)) hne
 have hcw:canW m i k=true↔((ze_ (qu m (rdr m i k)) (pr m i).out[k]).2.2=0∧0<(ze_ (qu m (rdr m i k)) (pr m i).out[k]).2.1):=by
  rw [w1]
  unfold canW
  rw [hok]
  simp only [Bool.and_eq_true,decide_eq_true_eq,Bool.not_eq_true']
  constructor
  ·rintro ⟨⟨⟨-,h1⟩,h2⟩,h3⟩;exact ⟨h1,h2,h3⟩
  ·rintro ⟨h1,h2,h3⟩;exact ⟨⟨⟨hne,h1⟩,h2⟩,h3⟩
 have hgo:∀ {b:Bool},canW m i k=b→b=false→∀ j,j<k+1→canW m i j=false:=fun e e' j hj=>by
  rcases Nat.lt_or_ge j k with h2|h2
  ·exact hno j h2
  ·obtain rfl:j=k:=by omega
   rw [e,e']
 repeat' first|exact True.intro|(refine fun (b:Bool) hb=>?_;cases b<;>first|exact absurd hb (by decide)|exact nfl hb|exact nfr hb|skip)|refine And.intro (a:=I64 _) ?_ ?_|refine ⟨_,⟨rfl,rfl⟩,?_⟩|refine And.intro (a:=qj_ _ _ _ _ _ _ _ _) ?_ ?_|fail
 ·have hM:((pr m i).out.map blV).length≤MAXL:=by assumption
  rw [List.length_map] at hM
  unfold I64;unfold MAXL at hM;omega
 ·have h0:=of_decide_eq_false (by assumption:decide ((ze_ (qu m (rdr m i k)) (pr m i).out[k]).2.2=0)=false)
  refine ⟨k+1,(by (refine qf_ [some 0,some 1,some 2,some 3,some 4] rfl rfl ?_ ?_<;>(repeat' (first|exact qw_ hpe rfl rfl|exact True.intro|exact rfl|exact Or.inl rfl|exact Or.inr rfl|refine And.intro ?_ ?_|fail)))),⟨by omega,hgo rfl ?_⟩,by omega⟩
  rw [Bool.eq_false_iff]
  exact fun e=>h0 (hcw.1 e).1
 ·have hM:((pr m i).out.map blV).length≤MAXL:=by assumption
  rw [List.length_map] at hM
  unfold I64;unfold MAXL at hM;omega
 ·have h0:=of_decide_eq_false (by assumption:decide (0<(ze_ (qu m (rdr m i k)) (pr m i).out[k]).2.1)=false)
  refine ⟨k+1,(by (refine qf_ [some 0,some 1,some 2,some 3,some 4] rfl rfl ?_ ?_<;>(repeat' (first|exact qw_ hpe rfl rfl|exact True.intro|exact rfl|exact Or.inl rfl|exact Or.inr rfl|refine And.intro ?_ ?_|fail)))),⟨by omega,hgo rfl ?_⟩,by omega⟩
  rw [Bool.eq_false_iff]
  exact fun e=>h0 (hcw.1 e).2
 have hcan:canW m i k=true:=hcw.2 ⟨of_decide_eq_true (by assumption),of_decide_eq_true (by assumption)⟩
 have hw:=w1.1 (hcw.1 hcan)
 obtain ⟨w3,w4⟩:=w2 hw.1 hw.2.1
 conv=>whnf
 apply Exists.intro
 apply And.intro
 ·repeat' first|refine ⟨_,rfl,?_,rfl,?_⟩|refine ⟨rfl,?_⟩|fail
  ·rw [hel];exact h.lt
  ·exact rfl
 conv=>whnf
 refine ⟨trivial,?_⟩
 conv=>whnf
 apply Exists.intro
 apply And.intro
 ·repeat' first|refine ⟨rfl,?_⟩|fail
  exact rfl
 conv=>whnf
 apply Exists.intro
 apply And.intro
 ·conv=>whnf
  refine ⟨_,hei,?_⟩
  repeat' first|refine ⟨rfl,?_⟩|fail
  exact rfl
 conv=>whnf
 refine ⟨trivial,?_⟩
 conv=>whnf
 repeat' first|exact True.intro|refine ⟨_,⟨rfl,rfl⟩,?_⟩|refine And.intro (a:=qj_ _ _ _ _ _ _ _ _) ?_ ?_|fail
 conv=>whnf
 apply Exists.intro
 apply And.intro
 ·refine ⟨fun _=>rfl,xs_ (qu m (rdr m i k)) (pr m i).out[k],w4,?_,?_⟩
  ·have:=hw.2.2
   unfold xs_
   split
   ·exact Nat.le_refl _
   ·split<;>omega
  ·exact ⟨rfl,rfl⟩
 conv=>whnf
 apply Exists.intro
 apply And.intro
 ·repeat' first|refine ⟨_,rfl,?_,rfl,?_⟩|refine ⟨rfl,?_⟩|fail
  ·rw [List.length_map];exact hrq
  ·exact rfl
 conv=>whnf
 refine ⟨trivial,?_⟩
 conv=>whnf
 apply Exists.intro
 apply Exists.intro
 apply And.intro
 ·conv=>whnf
  refine ⟨by rw [List.length_map];exact hrq,?_⟩
  exact ⟨rfl,rfl⟩
 conv=>whnf
 repeat' first|exact True.intro|refine And.intro (a:=qx_ _ _ _ _ _ _) ?_ ?_|fail
 conv=>whnf
 apply Exists.intro
 apply And.intro
 ·repeat' first|refine ⟨_,rfl,?_,rfl,?_⟩|refine ⟨rfl,?_⟩|fail
  ·rw [List.length_map];exact hk2
  ·exact rfl
 conv=>whnf
 repeat' first|exact True.intro|refine And.intro (a:=qj_ _ _ _ _ _ _ _ _) ?_ ?_|fail
 conv=>whnf
 apply Exists.intro
 apply Exists.intro
 apply And.intro
 ·conv=>whnf
  refine ⟨by rw [List.length_map];exact hk2,?_⟩
  exact ⟨rfl,rfl⟩
 conv=>whnf
 repeat' first|exact True.intro|refine And.intro (a:=qx_ _ _ _ _ _ _) ?_ ?_|fail
 conv=>whnf
 have hpi:pr (doW m i k) i=setOut (pr m i) k ((outK m i k).drop (xs_ (qu m (rdr m i k)) (outK m i k))):=by
  unfold doW
  rw [xe_ (by show i<m.p.length;rw [h.np];exact h.lt),if_pos rfl]
 have e:focR (doW m i k) i els=[.box [.sl qh_ m.g,.sl qq_ m.f,.own 1,.own 2,.sl qd_ m.sunk],.row 4 ((m.pipes.map qk_).set (rdr m i k) (qk_ (ze_ (qu m (rdr m i k)) (pr m i).out[k]).1)),.rowq 5 (els.set i (q6_ (pr m i))),.row 1 ((pr m i).got.map blV),.row 1 (((pr m i).out.map blV).set k (blV ((pr m i).out[k].drop (xs_ (qu m (rdr m i k)) (pr m i).out[k]))))]:=by
  unfold focR
  rw [hpi,w3,←hok,←List.map_set,←List.map_set]
  rfl
 have hfin:=hT k [.box (qk_ (ze_ (qu m (rdr m i k)) (pr m i).out[k]).1).cells] hk2 hcan hno
 rw [e] at hfin
 exact hfin
end Gv
namespace Gv
variable [Glob] [Laid]
def zv_ (p:PipeS) (most:Int):PipeS × List UInt8 × Int :=
 if zp_ p≠0 then (w6_,[],zp_ p) else if most<0∨4000<most then (w6_,[],3) else
  ({p with b:=p.b.drop (min most p.b.length).toNat},p.b.take (min most p.b.length).toNat,0)
theorem za5_:qb_ Tryz.prog 164=true:=by kernel_rfl
def q8q_:Spec:=fun args K=>∃ p n,args=[qk_ p,.int .i64 n]∧K (.tup [qk_ (zv_ p n).1,.sl qd_ (zv_ p n).2.1,.int .i64 (zv_ p n).2.2])
noncomputable def q6q_:List (Nat × Spec):=[(21,qcu_),(66,yg_),(214,y5_)]
noncomputable def q6p_:List (Nat × FnI):=[(213,{fn:=Tryz.f213,hooks:=[],draws:=[(5,[0,0,2,6,14,0,32,96,224,480,1022,2047,4095]),(7,[0,0,2,6,14,0,0,96,254,510,1023,2047,4095])]})]
noncomputable def qwj_:List (Nat × qn_):=[]
theorem zdj_:EnvOK ⟨Tryz.prog,tys,q6q_,q6p_,qwj_,[]⟩:=qs_ qt_ tys0 (.cons qbr_ qbs_ (.cons x1_ x2_ (.cons yz_ y0_ .nil))) (.cons (by kernel_rfl) ⟨Tryz.func213,by kernel_rfl,by kernel_rfl⟩ .nil) .nil rfl
theorem za6_:Pure Tryz.prog 164 q8q_:=by
 refine qp_ zdj_ 6 (fi:={fn:=Tryz.f164,hooks:=[],draws:=[]}) ⟨Tryz.func164,by kernel_rfl,by kernel_rfl⟩ ?_
 rintro _ K ⟨p,n,rfl,hK⟩
 replace hK:∀ r,r=.tup [qk_ (zv_ p n).1,.sl qd_ (zv_ p n).2.1,.int .i64 (zv_ p n).2.2]→K r:=fun r h=>h ▸ hK
 refine ⟨p,rfl,?_⟩
 repeat' first|(refine fun (b:Bool) hb=>?_;cases b<;>first|exact absurd hb (by decide)|exact nfl hb|exact nfr hb|skip)|(refine fun (hl:_≤MAXL)=>?_)|refine ⟨(fun _=>rfl),?_⟩|refine ⟨UInt8,qd_,?_⟩|fail
 ·have hc:zp_ p=0:=by grind
  have hs:=xq_ hc
  have hn:0≤n:=by grind
  refine ⟨(min n p.b.length).toNat,by omega,by omega,?_⟩
  refine ⟨_,rfl,by simp;omega,?_⟩
  refine ⟨fun _=>rfl,?_⟩
  refine ⟨(min n p.b.length).toNat,by omega,by omega,?_⟩
  refine ⟨_,rfl,by simp;omega,?_⟩
  refine hK _ ?_
  grind [zv_,qk_]
 all_goals (refine hK _ ?_;grind [zv_,w6_,qk_])
end Gv
namespace Gv
variable [Glob] [Laid]
theorem qc5_:qb_ Tryz.prog 95=true:=by kernel_rfl
def qb3_:Spec:=fun args K=>∃ (N:List Gp.Node) (i:Nat),args=[.agg [.sl qh_ N],.int .i64 i]∧(i≤N.length∧(qr_ N).length≤1000000000)∧K (.int .i64 (insB N i:Nat))
noncomputable def qpp_:List (Nat × Spec):=[]
noncomputable def qpo_:List (Nat × FnI):=[]
noncomputable def qjb_:List (Nat × qn_):=[]
theorem qzs_:EnvOK ⟨Tryz.prog,tys,qpp_,qpo_,qjb_,[]⟩:=qs_ qt_ tys0 .nil .nil .nil rfl
theorem qc6_:Pure Tryz.prog 95 qb3_:=by
 refine qp_ qzs_ 6 (fi:={fn:=Tryz.f95,hooks:=[],draws:=[]}) ⟨Tryz.func95,by kernel_rfl,by kernel_rfl⟩ ?_
 rintro _ K ⟨N,i,rfl,⟨hi,hn⟩,hK⟩
 replace hK:∀ r,r=.int .i64 (insB N i:Nat)→K r:=fun r h=>h ▸ hK
 have hmono:∀ a b,a≤b→insB N a≤insB N b:=fun a b h=>by
  unfold insB
  rw [←List.take_append_drop a (N.take b),List.take_take,Nat.min_eq_left h,zz_,List.length_append]
  omega
 have hall:insB N N.length=(qr_ N).length:=by unfold insB;rw [List.take_length]
 have hstep:∀ j (h:j<N.length),insB N (j+1)=insB N j+N[j].ins.length:=fun j h=>by
  unfold insB
  rw [List.take_succ_eq_append_getElem h,zz_,List.length_append]
  simp [qr_]
 repeat' first|refine ⟨(fun _=>rfl),?_⟩|fail
 refine ⟨i,rfl,hi,?_⟩
 repeat' first|(refine fun (hl:_≤MAXL)=>?_)|fail
 conv=>whnf
 refine qg_ [11,12] (σ:=Nat) (fun j=>[(13,.int .i64 j),(5,.int .i64 (insB N j:Nat))]) (fun _=>[.box [.sl qh_ N]]) (fun j=>j≤i) (fun j=>i-j) 0 ?_
 conv=>whnf
 refine ⟨(by (refine qf_ [some 0] rfl rfl ?_ ?_<;>(repeat' first|exact True.intro|exact rfl|exact .inl rfl|exact .inr rfl|refine And.intro ?_ ?_|fail))),Nat.zero_le _,fun j hj=>?_⟩
 have htl:(N.take i).length=i:=by rw [List.length_take];omega
 repeat' first|(refine fun (b:Bool) hb=>?_;cases b<;>first|exact absurd hb (by decide)|exact nfl hb|exact nfr hb|skip)|(refine fun (hl:_≤MAXL)=>?_)|refine And.intro (a:=I64 _) ?_ ?_|refine ⟨_,rfl,?_,rfl,?_⟩|fail
 ·have hji:j=i := by
   have h:=of_decide_eq_false (by assumption:decide ((j:Int)<((N.take i).length:Int))=false)
   omega
  subst hji
  conv=>whnf
  exact hK _ rfl
 ·have h:=of_decide_eq_true (by assumption:decide ((j:Int)<((N.take i).length:Int))=true)
  omega
 all_goals
  have hj2:j<i:=by
   have h:=of_decide_eq_true (by assumption:decide ((j:Int)<((N.take i).length:Int))=true)
   omega
  have hjN:j<N.length:=by omega
  have hge:(N.take i)[j]'(by omega)=N[j]:=List.getElem_take
  have hs:=hstep j hjN
  have hm:=hmono (j+1) N.length (by omega)
  rw [hall] at hm
 ·rw [hge]
  unfold I64;omega
 ·have hM:(N.take i).length≤MAXL:=by assumption
  rw [htl] at hM
  unfold I64;unfold MAXL at hM;omega
 ·refine ⟨j+1,?_,by omega,by omega⟩
  have e:((insB N (j+1):Nat):Int)=(insB N j:Int)+(((N.take i)[j]'(by omega)).ins.length:Int):=by rw [hge,hs];omega
  show Wk _ _ _ ([(13,.int .i64 ((j+1:Nat):Int)),(5,.int .i64 ((insB N (j+1):Nat):Int))]++_) _
  rw [e]
  exact (by (refine qf_ [some 0] rfl rfl ?_ ?_<;>(repeat' first|exact True.intro|exact rfl|exact .inl rfl|exact .inr rfl|refine And.intro ?_ ?_|fail)))
end Gv
namespace Gv
variable [Glob] [Laid]
theorem q1l_:qb_ Tryz.prog 79=true:=by kernel_rfl
def qs3_:Spec:=fun args K=>∃ (l:List FileS) (n:Bs),args=[.sl qq_ l,.str n]∧K (.tup [.int .i64 (x6_ l n:Nat),.bool (isAt l n)])
noncomputable def qwg_:List (Nat × Spec):=[]
noncomputable def qwf_:List (Nat × FnI):=[(136,{fn:=Tryz.f136,hooks:=[],draws:=[]}),(137,{fn:=Tryz.f137,hooks:=[],draws:=[]})]
noncomputable def qm1_:List (Nat × qn_):=[]
theorem q6f_:EnvOK ⟨Tryz.prog,tys,qwg_,qwf_,qm1_,[]⟩:=qs_ qt_ tys0 .nil (.cons (by kernel_rfl) ⟨Tryz.func136,by kernel_rfl,by kernel_rfl⟩ (.cons (by kernel_rfl) ⟨Tryz.func137,by kernel_rfl,by kernel_rfl⟩ .nil)) .nil rfl
theorem q1m_:Pure Tryz.prog 79 qs3_:=by
 refine qp_ q6f_ 6 (fi:={fn:=Tryz.f79,hooks:=[],draws:=[(4,[0,0,0,6,14,30,0,126,1,511])]}) ⟨Tryz.func79,by kernel_rfl,by kernel_rfl⟩ ?_
 rintro _ K ⟨l,n,rfl,hK⟩
 replace hK:∀ r,r=.tup [.int .i64 (x6_ l n:Nat),.bool (isAt l n)]→K r:=fun r h=>h ▸ hK
 repeat' first|(refine fun (hl:_≤MAXL)=>?_)|fail
 conv=>whnf
 refine qg_ [0,1,7] (σ:=Nat) (fun i=>[(8,.int .i64 i)]) (fun i=>[.box [.str n]]) (fun i=>i≤l.length∧∀ j (h:j<l.length),j<i→va_ n l[j]=false) (fun i=>l.length-i) 0 ?_
 conv=>whnf
 refine ⟨(by (refine qa_ ?_;refine Sel4.mk rfl rfl ?_ ?_<;>(repeat' first|exact True.intro|exact rfl|exact .inl rfl|exact .inr rfl|refine And.intro ?_ ?_|fail))),⟨Nat.zero_le _,fun j h h'=>by omega⟩,fun i hi=>?_⟩
 obtain ⟨hi,hn⟩:=hi
 repeat' first|exact True.intro|(refine fun (b:Bool) hb=>?_;cases b<;>first|exact absurd hb (by decide)|exact nfl hb|exact nfr hb|skip)|(refine fun (hl:_≤MAXL)=>?_)|refine And.intro (a:=I64 _) ?_ ?_|refine ⟨_,⟨rfl,rfl⟩,?_⟩|refine And.intro (a:=qj_ _ _ _ _ _ _ _ _) ?_ ?_|refine ⟨_,⟨_,rfl,?_,rfl,rfl,rfl⟩,?_⟩|refine ⟨_,rfl,?_,rfl,?_⟩|fail
 ·have hge:¬ (i:Int)<(l.length:Int):=of_decide_eq_false (by assumption)
  have ei:i=l.length:=by omega
  have hp:x6_ l n=l.length:=q1n_ fun j hj=>hn j hj (by omega)
  skip
  refine hK _ ?_
  unfold isAt
  rw [hp,List.getElem?_eq_none (Nat.le_refl _)]
 ·have h:=of_decide_eq_true (by assumption:decide ((i:Int)<(l.length:Int))=true)
  show i<l.length
  omega
 ·have hl0:l.length≤MAXL:=by assumption
  unfold MAXL at hl0
  have h:=of_decide_eq_true (by assumption:decide ((i:Int)<(l.length:Int))=true)
  unfold I64;omega
 ·have hlt:i<l.length := by
   have h:=of_decide_eq_true (by assumption:decide ((i:Int)<(l.length:Int))=true)
   omega
  have hx:va_ n l[i]=false:=by assumption
  refine ⟨i+1,(by (refine qa_ ?_;refine Sel4.mk rfl rfl ?_ ?_<;>(repeat' first|exact True.intro|exact rfl|exact .inl rfl|exact .inr rfl|refine And.intro ?_ ?_|fail))),⟨hlt,fun j hj hj2=>?_⟩,by omega⟩
  rcases Nat.lt_or_ge j i with h|h
  ·exact hn j hj h
  ·have:j=i:=by omega
   subst this
   exact hx
 ·have h:=of_decide_eq_true (by assumption:decide ((i:Int)<(l.length:Int))=true)
  show i<l.length
  omega
 ·have hlt:i<l.length := by
   have h:=of_decide_eq_true (by assumption:decide ((i:Int)<(l.length:Int))=true)
   omega
  have hx:va_ n l[i]=true:=by assumption
  have hp:x6_ l n=i:=q6g_ hlt hx hn
  skip
  refine hK _ ?_
  unfold isAt
  rw [hp,List.getElem?_eq_getElem hlt]
end Gv
namespace Gv
variable [Glob] [Laid]
theorem qxs_:qb_ Tryz.prog 77=true:=by kernel_rfl
def qrx_:Spec:=fun args K=>∃ (l:List FileS) (n:Bs),args=[.sl qq_ l,.str n]∧(∀ f∈l,f.b.length≤1000000000)∧K (.sl qd_ (yu_ l n))
noncomputable def qty_:List (Nat × Spec):=[(79,qs3_),(66,yg_)]
noncomputable def qtx_:List (Nat × FnI):=[]
noncomputable def qkq_:List (Nat × qn_):=[]
theorem q38_:EnvOK ⟨Tryz.prog,tys,qty_,qtx_,qkq_,[]⟩:=qs_ qt_ tys0 (.cons q1l_ q1m_ (.cons x1_ x2_ .nil)) .nil .nil rfl
theorem qxt_:Pure Tryz.prog 77 qrx_:=by
 refine qp_ q38_ 6 (fi:={fn:=Tryz.f77,hooks:=[],draws:=[]}) ⟨Tryz.func77,by kernel_rfl,by kernel_rfl⟩ ?_
 rintro _ K ⟨l,n,rfl,hfb,hK⟩
 replace hK:∀ r,r=.sl qd_ (yu_ l n)→K r:=fun r h=>h ▸ hK
 refine ⟨l,n,rfl,?_⟩
 obtain ⟨q,hq⟩:∃ q,isAt l n=q:=⟨_,rfl⟩
 rw [hq]
 cases q
 ·repeat' first|(refine fun (b:Bool) hb=>?_;cases b<;>first|exact absurd hb (by decide)|exact nfl hb|exact nfr hb|skip)|fail
  refine ⟨UInt8,qd_,?_⟩
  refine hK _ ?_
  unfold isAt at hq
  unfold yu_
  cases h:l[x6_ l n]? with
  | none=>rfl
  | some f =>
   rw [h] at hq
   have:¬ f.name=n:=of_decide_eq_false hq
   simp [this]
 ·have hx:∃ h:x6_ l n<l.length, l[x6_ l n].name=n := by
   unfold isAt at hq
   cases h:l[x6_ l n]? with
   | none=>rw [h] at hq;cases hq
   | some f =>
    rw [h] at hq
    obtain ⟨h1,h2⟩:=List.getElem?_eq_some_iff.1 h
    exact ⟨h1,by rw [h2];exact of_decide_eq_true hq⟩
  obtain ⟨hlt,hn⟩:=hx
  have hf:yu_ l n=l[x6_ l n].b:=by
   unfold yu_
   rw [List.getElem?_eq_getElem hlt]
   simp [hn]
  rw [hf] at hK
  repeat' first|(refine fun (b:Bool) hb=>?_;cases b<;>first|exact absurd hb (by decide)|exact nfl hb|exact nfr hb|skip)|refine ⟨_,rfl,?_,rfl,?_⟩|fail
  ·exact hlt
  refine ⟨l[x6_ l n].b,rfl,hfb _ (List.getElem_mem hlt),?_⟩
  skip
  exact hK _ rfl
end Gv
namespace Gv
variable [Glob] [Laid]
end Gv
namespace Gv
variable [Glob] [Laid]
theorem qzq_:qb_ Tryz.prog 237=true:=by kernel_rfl
def qsl_:Spec:=fun args K=>∃ (l:List UInt8),args=[.sl qd_ l,.sl qd_ [10]]∧K (.int .i64 (idxB l 10))
theorem qzr_:Pure Tryz.prog 237 qsl_:=by
 refine qm3_ fun w m args us K hm hg hl hv hT=>?_
 obtain ⟨l,rfl,hK⟩:=hT
 obtain ⟨a,b,rfl,ha,hb⟩:=qn7_ hl hv
 obtain ⟨p,c,rfl,hp,hlc,hc,hx⟩:=qah_ ha hm
 obtain ⟨p2,c2,rfl,hp2,hlc2,hc2,hx2⟩:=qah_ hb hm
 refine ⟨_,_,hK,.int,?_⟩
 match p2,hp2,hx2 with
 | none,hp2,_=>exact absurd (hp2 rfl).1 (by simp)
 | some ⟨b2,o2,sp2⟩,_,hx2 =>
  obtain ⟨h1,h2⟩:=hx2 b2 o2 sp2 rfl
  have hs:sp2=none:=h1.resolve_right (by simp)
  subst hs
  have h3:=h2 0 (by simp)
  have h4:w.cell? ⟨b2,o2,none⟩=some (.int .u8 10):=by simpa [Addr.add,qa6_] using h3
  match p,hp,hx with
  | none,hp,_ =>
   obtain ⟨rfl,rfl⟩:=hp rfl
   exact (Tryz.bytes_Index_one_nil b2 o2 c2 10 w h4).mono fun e w' ⟨he,hw⟩=>⟨by rw [he];rfl,by subst hw;exact Bel.refl _ _⟩
  | some ⟨b1,o1,sp1⟩,_,hx =>
   refine (Tryz.bytes_Index_one_at ⟨b1,o1,sp1⟩ l.length c b2 o2 c2 (qa6_ l) 10 w (qb9_ l) (fun i hi=>(hx b1 o1 sp1 rfl).2 i hi) h4).mono fun e w' ⟨he,hw⟩=>⟨by rw [he,qdr_];rfl,by subst hw;exact Bel.refl _ _⟩
end Gv
namespace Gv
variable [Glob] [Laid]
theorem q9i_ (l:Bs):(vo_ l).2.2=decide (0≤idxB l 10)∧(0≤idxB l 10→idxB l 10+1≤l.length∧(vo_ l).1=l.take (idxB l 10).toNat∧(vo_ l).2.1=l.drop ((idxB l 10).toNat+1))∧(idxB l 10<0→vo_ l=(l,[],false)):=by
 unfold idxB
 rcases qef_ l with h|⟨a,r,rfl,ha⟩
 ·have e:Lib.indexByte l 10=-1 := by
   induction l with
   | nil=>rfl
   | cons c l ih =>
    simp only [List.mem_cons,not_or] at h
    unfold Lib.indexByte
    rw [if_neg (by simpa using fun e=>h.1 (e.symm)),ih h.2]
    rfl
  rw [e,qi1_ h]
  refine ⟨rfl,fun h=>by omega,fun _=>rfl⟩
 ·have e:Lib.indexByte (a++10::r) 10=a.length := by
   induction a with
   | nil=>rfl
   | cons c a ih =>
    simp only [List.mem_cons,not_or] at ha
    show Lib.indexByte (c::(a++10::r)) 10=_
    unfold Lib.indexByte
    rw [if_neg (by simpa using fun e=>ha.1 (e.symm)),ih ha.2,if_neg (by simp<;>omega)]
    simp
  rw [e,qi0_ ha]
  refine ⟨by simp,fun _=>⟨by simp<;>omega,by simp,?_⟩,fun h=>by omega⟩
  rw [Int.toNat_natCast,show a.length+1=(a++[10]).length by simp,show a++10::r=(a++[10])++r by simp,List.drop_left]
theorem zcp_:qb_ Tryz.prog 204=true:=by kernel_rfl
def cut_S:Spec:=fun args K=>∃ (l:List UInt8),args=[.sl qd_ l,.sl qd_ [10]]∧l.length≤1000000000∧K (.tup [.sl qd_ (vo_ l).1,.sl qd_ (vo_ l).2.1,.bool (vo_ l).2.2])
noncomputable def q9k_:List (Nat × Spec):=[(237,qsl_)]
noncomputable def q9h_:List (Nat × FnI):=[]
noncomputable def qys_:List (Nat × qn_):=[]
theorem cut_E:EnvOK ⟨Tryz.prog,tys,q9k_,q9h_,qys_,[]⟩:=qs_ qt_ tys0 (.cons qzq_ qzr_ .nil) .nil .nil rfl
theorem zcq_:Pure Tryz.prog 204 cut_S:=by
 refine qp_ cut_E 6 (fi:={fn:=Tryz.f204,hooks:=[],draws:=[(3,[0,0,3,0,0,0,32,112,248,7,1023,2047])]}) ⟨Tryz.func204,by kernel_rfl,by kernel_rfl⟩ ?_
 rintro _ K ⟨l,rfl,hz,hK⟩
 replace hK:∀ r,r=.tup [.sl qd_ (vo_ l).1,.sl qd_ (vo_ l).2.1,.bool (vo_ l).2.2]→K r:=fun r h=>h ▸ hK
 obtain ⟨h1,h2,h3⟩:=q9i_ l
 refine ⟨l,rfl,?_⟩
 repeat' first|(refine fun (b:Bool) hb=>?_;cases b<;>first|exact absurd hb (by decide)|exact nfl hb|exact nfr hb|skip)|refine ⟨_,⟨rfl,rfl⟩,?_⟩|refine ⟨UInt8,qd_,?_⟩|fail
 ·refine hK _ ?_
  rw [h3 (by grind)]
 have hi:0≤idxB l 10:=by grind
 obtain ⟨g1,g2,g3⟩:=h2 hi
 refine ⟨_,⟨fun _=>rfl,(idxB l 10).toNat,by omega,by omega,rfl,rfl⟩,?_⟩
 repeat' first|refine ⟨_,⟨rfl,rfl⟩,?_⟩|refine ⟨_,And.intro (a:=I64 _) ?_ ⟨rfl,rfl⟩,?_⟩|refine ⟨_,(fun _=>⟨rfl,rfl⟩),?_⟩|fail
 ·simp only [List.length_cons,List.length_nil]
  unfold I64
  omega
 refine ⟨_,⟨fun _=>rfl,(idxB l 10).toNat+1,?_,by omega,rfl,rfl⟩,?_⟩
 ·simp only [List.length_cons,List.length_nil]
  omega
 repeat' first|refine ⟨_,⟨rfl,rfl⟩,?_⟩|fail
 refine hK _ ?_
 rw [g2,g3,h1,decide_eq_true hi]
end Gv
namespace Gv
variable [Glob] [Laid]
theorem of_ca:qb_ Tryz.prog 151=true:=by kernel_rfl
def of_S:Spec:=fun args K=>∃ (b:Bs),args=[.sl qd_ b]∧b.length≤1000000000∧K (.sl strV (qc_ b))
noncomputable def zc9_:List (Nat × Spec):=[(204,cut_S)]
noncomputable def zc8_:List (Nat × FnI):=[]
noncomputable def q53_:List (Nat × qn_):=[]
theorem of_E:EnvOK ⟨Tryz.prog,tys,zc9_,zc8_,q53_,[]⟩:=qs_ qt_ tys0 (.cons zcp_ zcq_ .nil) .nil .nil rfl
theorem of_ok:Pure Tryz.prog 151 of_S:=by
 refine qp_ of_E 6 (fi:={fn:=Tryz.f151,hooks:=[],draws:=[]}) ⟨Tryz.func151,by kernel_rfl,by kernel_rfl⟩ ?_
 rintro _ K ⟨b0,rfl,hz,hK⟩
 conv=>whnf
 refine qg_ [] (σ:=List Bs × Bs) (fun s=>[(3,.own 0),(0,.sl qd_ s.2)]) (fun s=>[.row 1 (s.1.map strV)]) (fun s=>s.1++qc_ s.2=qc_ b0∧s.2.length+s.1.length≤1000000000) (fun s=>s.2.length) ([],b0) ?_
 conv=>whnf
 refine ⟨(by (refine qf_ [none] rfl rfl ?_ ?_<;>(repeat' first|exact True.intro|exact rfl|exact .inl rfl|exact .inr rfl|refine And.intro ?_ ?_|fail))),⟨rfl,hz⟩,fun s hs=>?_⟩
 obtain ⟨l,b⟩:=s
 obtain ⟨h1,h2⟩:=hs
 replace h1:l++qc_ b=qc_ b0:=h1
 replace h2:b.length+l.length≤1000000000:=h2
 repeat' first|refine ⟨_,_,_,LeL.refl _,?_⟩|(refine fun (b:Bool) hb=>?_;cases b<;>first|exact absurd hb (by decide)|exact nfl hb|exact nfr hb|skip)|(refine fun (hl:_≤MAXL)=>?_)|fail
 ·have:b=[] := by
   have h:decide (0<(b.length:Int))=false:=by assumption
   cases b with
   | nil=>rfl
   | cons c b=>simp at h<;>omega
  subst this
  rw [qfd_,List.append_nil] at h1
  rw [h1]
  exact hK
 have hb0:b≠[]:=by
  intro e
  subst e
  have h:decide ((0:Int)<(([]:Bs).length:Int))=true:=by assumption
  simp at h
 have g1:=qpz_ hb0
 have g2:=q9j_ hb0
 refine ⟨UInt8,qd_,[10],LeL.refl _,?_⟩
 refine ⟨b,rfl,by omega,?_⟩
 repeat' first|refine And.intro (a:=_≤140737488355328) ?_ ?_|refine ⟨_,(fun _=>rfl),rfl,?_⟩|refine ⟨rfl,?_⟩|fail
 ·simp only [List.length_map,List.length_cons,List.length_nil]
  have:=List.length_pos_iff.2 hb0
  omega
 ·refine ⟨(l++[(vo_ b).1],(vo_ b).2.1),?_,⟨?_,?_⟩,g2.1⟩
  ·refine qf_ [some 3] rfl rfl ⟨?_,trivial⟩ ?_
   ·rw [List.map_append]
    exact rfl
   ·(repeat' first|exact True.intro|exact rfl|exact .inl rfl|exact .inr rfl|refine And.intro ?_ ?_|fail)
  ·rw [←h1,g1,List.append_assoc]
   rfl
  ·simp only [List.length_append,List.length_cons,List.length_nil]
   omega
end Gv
namespace Gv
variable [Glob] [Laid]
theorem qmf_:qb_ Tryz.prog 90=true:=by kernel_rfl
def qji_:Spec:=fun args K=>∃ (b:Bs),args=[.sl qd_ b]∧b.length≤1000000000∧K (.sl strV (qc_ b))
noncomputable def qvp_:List (Nat × Spec):=[(151,of_S)]
noncomputable def qvo_:List (Nat × FnI):=[]
noncomputable def qmh_:List (Nat × qn_):=[]
theorem q5q_:EnvOK ⟨Tryz.prog,tys,qvp_,qvo_,qmh_,[]⟩:=qs_ qt_ tys0 (.cons of_ca of_ok .nil) .nil .nil rfl
theorem qmg_:Pure Tryz.prog 90 qji_:=by
 refine qp_ q5q_ 6 (fi:={fn:=Tryz.f90,hooks:=[],draws:=[]}) ⟨Tryz.func90,by kernel_rfl,by kernel_rfl⟩ ?_
 rintro _ K ⟨b,rfl,hz,hK⟩
 replace hK:∀ r,r=.sl strV (qc_ b)→K r:=fun r h=>h ▸ hK
 skip
 refine ⟨b,rfl,hz,?_⟩
 skip
 exact hK _ rfl
end Gv
namespace Gv
variable [Glob] [Laid]
theorem q1w_:qb_ Tryz.prog 93=true:=by kernel_rfl
def put_S:Spec:=fun args K=>∃ l:List Bs,args=[.sl strV l]∧(put l).length≤1000000000∧K (.sl qd_ (put l))
noncomputable def za0_:List (Nat × Spec):=[]
noncomputable def zaz_:List (Nat × FnI):=[]
noncomputable def q1y_:List (Nat × qn_):=[]
theorem put_E:EnvOK ⟨Tryz.prog,tys,za0_,zaz_,q1y_,[]⟩:=qs_ qt_ tys0 .nil .nil .nil rfl
theorem q1x_:Pure Tryz.prog 93 put_S:=by
 refine qp_ put_E 6 (fi:={fn:=Tryz.f93,hooks:=[],draws:=[]}) ⟨Tryz.func93,by kernel_rfl,by kernel_rfl⟩ ?_
 rintro _ K ⟨l,rfl,hb,hK⟩
 refine fun (hl:_≤MAXL)=>?_
 conv=>whnf
 refine qg_ [6,7] (σ:=Nat) (fun i=>[(3,.own 0),(8,.int .i64 i)]) (fun i=>[.row 1 ((put (l.take i)).map qd_)]) (fun i=>i≤l.length) (fun i=>l.length-i) 0 ?_
 conv=>whnf
 refine ⟨(by (refine qf_ [none] rfl rfl ?_ ?_<;>(repeat' first|exact True.intro|exact rfl|exact .inl rfl|exact .inr rfl|refine And.intro ?_ ?_|fail))),Nat.zero_le _,fun i hi=>?_⟩
 have h1:=qbf_ l i
 have h2:=qbf_ l (i+1)
 repeat' first|refine ⟨_,_,_,LeL.refl _,?_⟩|(refine fun (b:Bool) hb=>?_;cases b<;>first|exact absurd hb (by decide)|exact nfl hb|exact nfr hb|skip)|refine And.intro (a:=I64 _) ?_ ?_|refine And.intro (a:=_≤140737488355328) ?_ ?_|refine ⟨_,rfl,?_,rfl,?_⟩|refine ⟨rfl,?_⟩|fail
 ·rw [List.take_of_length_le (by grind)]
  exact hK
 ·grind
 ·rw [wm_ (by grind)] at h2
  simp only [List.length_append,List.length_map,List.length_cons,List.length_nil,Nat.mul_one] at *
  omega
 ·rw [wm_ (by grind)] at h2
  simp only [List.length_append,List.length_map,List.length_cons,List.length_nil,Nat.mul_one] at *
  omega
 ·(first|omega|(unfold I64;omega)|(simp only [List.length_append,List.length_map,List.length_cons,List.length_nil,Nat.mul_one,Int.ofNat_eq_natCast] at *;omega)|(dsimp only at *;omega)|(unfold I64;dsimp only at *;omega)|(unfold I64;grind)|grind)
 ·refine ⟨i+1,?_,by grind,by grind⟩
  refine qf_ [some 3] rfl rfl ⟨?_,trivial⟩ ?_
  ·rw [wm_ (by grind),List.map_append,List.map_append,←List.append_assoc]
   exact rfl
  ·(repeat' first|exact True.intro|exact rfl|exact .inl rfl|exact .inr rfl|refine And.intro ?_ ?_|fail)
end Gv
namespace Gv
variable [Glob] [Laid]
theorem q6d_ (l:List Bs) (n k:Nat):(put (part l n k)).length≤(put l).length:=by
 have h1:=qbf_ l ((k+1)*l.length / n)
 have h2:=congrArg (fun a=>(put a).length) (List.take_append_drop (k*l.length / n) (l.take ((k+1)*l.length / n)))
 simp only [y2_,List.length_append] at h2
 unfold Gp.part
 omega
theorem qfg_ {a b c:Nat} (h:a*b≤c):(a:Int)*(b:Int)≤(c:Int):=by
 rw [←Int.natCast_mul]
 omega
theorem qr9_ (k m n:Nat):((k:Int)*(m:Int)) / (n:Int)=((k*m / n:Nat):Int):=by
 rw [←Int.natCast_mul,←Int.natCast_ediv]
theorem qkb_:qb_ Tryz.prog 129=true:=by kernel_rfl
def qd1_:Spec:=fun args K=>∃ (l:List Bs) (n:Nat),args=[.sl strV l,.int .i64 n]∧(1≤n∧n≤1000∧(put l).length≤1000000000)∧K (.sl blV (zj_ l n))
noncomputable def qgv_:List (Nat × Spec):=[(93,put_S)]
noncomputable def qgu_:List (Nat × FnI):=[]
noncomputable def qd6_:List (Nat × qn_):=[]
theorem qnk_:EnvOK ⟨Tryz.prog,tys,qgv_,qgu_,qd6_,[]⟩:=qs_ qt_ tys0 (.cons q1w_ q1x_ .nil) .nil .nil rfl
theorem qkc_:Pure Tryz.prog 129 qd1_:=by
 refine qp_ qnk_ 6 (fi:={fn:=Tryz.f129,hooks:=[],draws:=[(5,[0,0,0,0,8,28,0,124,0,256,0,1024,3840,0,16128,32766,65534,131070,262143,524287])]}) ⟨Tryz.func129,by kernel_rfl,by kernel_rfl⟩ ?_
 rintro _ K ⟨l,n,rfl,⟨hn1,hn2,hz⟩,hK⟩
 conv=>whnf
 have hl1:=qdg_ (l:=l) (n:=1000000000) hz
 refine qg_ [0,1,7] (σ:=Nat) (fun k=>[(5,.own 0),(8,.int .i64 k)]) (fun k=>[.row 1 (((zj_ l n).take k).map blV)]) (fun k=>k≤n) (fun k=>n-k) 0 ?_
 conv=>whnf
 refine ⟨(by (refine qf_ [none] rfl rfl ?_ ?_<;>(repeat' first|exact True.intro|exact rfl|exact .inl rfl|exact .inr rfl|refine And.intro ?_ ?_|fail))),Nat.zero_le _,fun k hk=>?_⟩
 have hsl:(zj_ l n).length=n:=by simp [zj_]
 have hml:k*l.length≤1000000000000:=Nat.mul_le_mul (show k≤1000 by omega) hl1
 have hml2:(k+1)*l.length≤1001000000000:=Nat.mul_le_mul (show k+1≤1001 by omega) hl1
 have hml3:=qfg_ hml
 have hml4:((k:Int)+1)*(l.length:Int)≤((1001000000000:Nat):Int):=qfg_ hml2
 have hml5:0≤(k:Int)*l.length:=Int.mul_nonneg (by omega) (by omega)
 have hml6:0≤((k:Int)+1)*l.length:=Int.mul_nonneg (by omega) (by omega)
 have hbd:=qjv_ l.length n k (by omega)
 have hpp:=q6d_ l n k
 repeat' first|refine ⟨_,_,_,LeL.refl _,?_⟩|(refine fun (b:Bool) hb=>?_;cases b<;>first|exact absurd hb (by decide)|exact nfl hb|exact nfr hb|skip)|refine ⟨_,⟨rfl,rfl⟩,?_⟩|refine ⟨_,And.intro (a:=I64 _) ?_ ⟨rfl,rfl⟩,?_⟩|refine ⟨_,(fun _=>⟨rfl,rfl⟩),?_⟩|fail
 ·rw [List.take_of_length_le (by grind)]
  exact hK
 ·exact ⟨by omega,by omega⟩
 refine ⟨_,⟨⟨hml5,by omega,by omega⟩,rfl,rfl⟩,?_⟩
 repeat' first|refine ⟨_,⟨rfl,rfl⟩,?_⟩|refine ⟨_,And.intro (a:=I64 _) ?_ ⟨rfl,rfl⟩,?_⟩|refine ⟨_,(fun _=>⟨rfl,rfl⟩),?_⟩|fail
 ·exact ⟨by omega,by omega⟩
 ·exact ⟨by omega,by omega⟩
 refine ⟨_,⟨⟨hml6,by omega,by omega⟩,rfl,rfl⟩,?_⟩
 refine ⟨_,⟨fun _=>rfl,k*l.length / n,(k+1)*l.length / n,qr9_ _ _ _,qr9_ (k+1) _ _,Nat.le_trans (Nat.le_add_right _ _) hbd.1,?_,rfl,rfl⟩,?_⟩
 ·exact Nat.div_le_of_le_mul (Nat.mul_le_mul_right _ (by grind))
 refine ⟨_,⟨Gp.part l n k,rfl,by omega,rfl,rfl⟩,?_⟩
 refine ⟨_,⟨Bs,blV,[put (Gp.part l n k)],LeL.refl _,rfl,rfl⟩,?_⟩
 skip
 refine ⟨_,_,⟨fun _=>rfl,?_,rfl,rfl⟩,?_⟩
 ·simp only [List.length_map,List.length_take,List.length_cons,List.length_nil,qey_]
  omega
 repeat' first|exact True.intro|refine And.intro (a:=I64 _) ?_ ?_|refine ⟨_,⟨rfl,rfl⟩,?_⟩|refine And.intro (a:=qx_ _ _ _ _ _ _) ?_ ?_|fail
 ·(first|omega|(unfold I64;omega)|(simp only [List.length_append,List.length_map,List.length_cons,List.length_nil,Nat.mul_one,Int.ofNat_eq_natCast] at *;omega)|(dsimp only at *;omega)|(unfold I64;dsimp only at *;omega)|(unfold I64;grind)|grind)
 ·have hk2:k<n:=by grind
  refine ⟨k+1,?_,by omega,by omega⟩
  refine qf_ [some 1] rfl rfl ⟨?_,trivial⟩ ?_
  ·rw [List.take_succ_eq_append_getElem (by omega),List.map_append]
   have:(zj_ l n)[k]'(by omega)=put (Gp.part l n k):=by simp [zj_]
   rw [this]
   exact rfl
  ·(repeat' first|exact True.intro|exact rfl|exact .inl rfl|exact .inr rfl|refine And.intro ?_ ?_|fail)
end Gv
namespace Gv
variable [Glob] [Laid]
theorem qds_:qb_ Tryz.prog 147=true:=by kernel_rfl
def qa8_:Spec:=fun args K=>∃ (s sub:Bs),args=[.str s,.str sub]∧s.length<4294967281∧K (.bool (Lib.contains s sub))
theorem qdt_:Pure Tryz.prog 147 qa8_:=by
 intro w m args us K hm hg hv hT
 obtain ⟨s,sub,rfl,h1,hK⟩:=hT
 obtain ⟨a,b,rfl,ha,hb⟩:=qn7_ hv.1 hv.2
 obtain ⟨rfl,-⟩:=vf_ ha
 obtain ⟨rfl,-⟩:=vf_ hb
 obtain ⟨n,hn⟩:=Laid.maxlen w (fun b o e=>hm b o (hg b o e))
 refine (Tryz.strings_Contains (ba s) (ba sub) n w (by rw [xu_];exact h1) hn).mono fun e w' ⟨he,hw⟩=>?_
 subst hw
 exact ⟨_,_,he,Bel.refl _ _,hK,.bool⟩
end Gv
namespace Gv
variable [Glob] [Laid]
theorem qqu_:qb_ Tryz.prog 206=true:=by kernel_rfl
def qh1_:Spec:=fun args K=>∃ (s old new:Bs),args=[.str s,.str old,.str new]∧(s.length<4294967281∧1≤old.length∧s.length+Lib.count s old*new.length≤140737488355328∧(Lib.replaceAll s old new).length≤MAXL)∧K (.str (Lib.replaceAll s old new))
theorem qqv_:Pure Tryz.prog 206 qh1_:=by
 intro w m args us K hm hg hv hT
 obtain ⟨s,old,new,rfl,⟨h1,h2,h3,h4⟩,hK⟩:=hT
 obtain ⟨a,b,c,rfl,ha,hb,hc⟩:=zcd_ hv.1 hv.2
 obtain ⟨rfl,-⟩:=vf_ ha
 obtain ⟨rfl,-⟩:=vf_ hb
 obtain ⟨rfl,-⟩:=vf_ hc
 obtain ⟨n,hn⟩:=Laid.maxlen w (fun b o e=>hm b o (hg b o e))
 refine (Tryz.strings_ReplaceAll (ba s) (ba old) (ba new) n w (by rw [xu_];exact h1) hn (by rw [xu_];exact h2) (by rw [xu_,xu_];exact h3)).mono fun e w' ⟨he,hw⟩=>?_
 exact ⟨_,_,he,Bel.of_below hw,hK,.str h4⟩
end Gv
namespace Gv
variable [Glob] [Laid]
theorem qf6_:qb_ Tryz.prog 148=true:=by kernel_rfl
def qek_:Spec:=fun args K=>∃ (s sep:Bs),args=[.str s,.str sep]∧(s.length<4294967281∧1≤sep.length)∧K (.sl strV (Lib.split s sep))
theorem qf7_:Pure Tryz.prog 148 qek_:=by
 intro w m args us K hm hg hv hT
 obtain ⟨s,sep,rfl,⟨h1,h2⟩,hK⟩:=hT
 obtain ⟨a,b,rfl,ha,hb⟩:=qn7_ hv.1 hv.2
 obtain ⟨rfl,-⟩:=vf_ ha
 obtain ⟨rfl,-⟩:=vf_ hb
 obtain ⟨n,hn⟩:=Laid.maxlen w (fun b o e=>hm b o (hg b o e))
 refine (Tryz.strings_Split (ba s) (ba sep) n w (by rw [xu_];exact h1) hn (by rw [xu_];exact h2)).mono fun e w' ⟨he,hw⟩=>?_
 subst hw
 rw [qq5_] at *
 have hc:Lib.countB (ba s) (ba sep)+1=(Lib.split s sep).length:=(qnn_ s sep h2).symm
 have hle:(Lib.split s sep).length≤s.length+2:=by
  rw [←hc]
  have:=Lib.count_le s sep
  show Lib.count s sep+1≤_
  omega
 refine ⟨_,_,by rw [he,hc],Bel.alloc [] w _,hK,q7h_ (Gw.heap_alloc_new w _) (by unfold MAXL;omega) fun x hx=>?_⟩
 have:=qnj_ sep _ s x hx
 unfold MAXL
 omega
end Gv
namespace Gv
variable [Glob] [Laid]
def swp (l:Bs) (i:Nat):Bs:=(List.range l.length).map fun k=>if k<i∨l.length-1-k<i then l.getD (l.length-1-k) 0 else l.getD k 0
theorem zbv_ (l:Bs) (i:Nat):(swp l i).length=l.length:=by simp [swp]
theorem swp_0 (l:Bs):swp l 0=l:=by
 refine List.ext_getElem (by simp [swp]) fun i h1 h2=>?_
 simp [swp,h2]
theorem zbu_ (l:Bs) (i:Nat) (h:l.length≤2*i+1):swp l i=l.reverse:=by
 refine List.ext_getElem (by simp [swp]) fun k h1 h2=>?_
 have hk:k<l.length:=by simpa using h2
 simp only [swp,List.getElem_map,List.getElem_range,List.getElem_reverse]
 by_cases hc:k<i∨l.length-1-k<i
 ·rw [if_pos hc,List.getD_eq_getElem?_getD,List.getElem?_eq_getElem (by omega)]
  rfl
 ·rw [if_neg hc,List.getD_eq_getElem?_getD,List.getElem?_eq_getElem hk]
  have e:l.length-1-k=k:=by omega
  simp only [e]
  rfl
theorem q7k_ (l:Bs) (i:Nat) (h:2*i+1<l.length):((swp l i).set i (l.getD (l.length-1-i) 0)).set (l.length-1-i) (l.getD i 0)=swp l (i+1):=by
 refine List.ext_getElem (by simp [swp]) fun k h1 h2=>?_
 have hk:k<l.length:=by simpa [swp] using h2
 rw [List.getElem_set,List.getElem_set]
 simp only [swp,List.getElem_map,List.getElem_range]
 by_cases e1:l.length-1-i=k
 ·rw [if_pos e1,if_pos (by omega)]
  have:l.length-1-k=i:=by omega
  rw [this]
 ·rw [if_neg e1]
  by_cases e2:i=k
  ·rw [if_pos e2,if_pos (by omega),e2]
  ·rw [if_neg e2]
   by_cases hc:k<i∨l.length-1-k<i
   ·rw [if_pos hc,if_pos (by omega)]
   ·rw [if_neg hc,if_neg (by omega)]
theorem q8z_ (l:Bs) (i k:Nat) (hk:k<l.length) (h:¬ (k<i∨l.length-1-k<i)):(swp l i)[k]?=some (l.getD k 0):=by
 unfold swp
 rw [List.getElem?_map,List.getElem?_range hk]
 simp only [Option.map_some]
 rw [if_neg h]
theorem za9_:qb_ Tryz.prog 207=true:=by kernel_rfl
def q8r_:qn_:=fun args rows K=>∃ (l:Bs),args=[.own 0]∧rows=[.row 1 (l.map qd_)]∧l.length≤1000000000∧K (.tup []) [.row 1 (l.reverse.map qd_)]
noncomputable def q6t_:List (Nat × Spec):=[]
noncomputable def q6s_:List (Nat × FnI):=[]
noncomputable def qwm_:List (Nat × qn_):=[]
theorem zdk_:EnvOK ⟨Tryz.prog,tys,q6t_,q6s_,qwm_,[]⟩:=qs_ qt_ tys0 .nil .nil .nil rfl
theorem q17_:q1_ Tryz.prog 207 q8r_:=by
 refine xm_ zdk_ 6 za9_ (fi:={fn:=Tryz.f207,hooks:=[],draws:=[(3,[0,0,0,0,0,0,48,112,0,0,768,1792,4083,8179,16383,32767])]}) ⟨Tryz.func207,by kernel_rfl,by kernel_rfl⟩ ?_
 rintro args rows K ⟨l,rfl,rfl,hz,hK⟩
 repeat' first|(refine fun (hl:_≤MAXL)=>?_)|refine And.intro (a:=I64 _) ?_ ?_|fail
 ·(first|omega|(unfold I64;omega)|(simp only [List.length_append,List.length_map,List.length_cons,List.length_nil,Nat.mul_one,Int.ofNat_eq_natCast] at *;omega)|(dsimp only at *;omega)|(unfold I64;dsimp only at *;omega)|(unfold I64;grind)|grind)
 conv=>whnf
 refine qg_ [0] (σ:=Nat × Int × Bs) (fun s=>[(2,.int .i64 s.1),(3,.int .i64 s.2.1)]) (fun s=>[.row 1 (s.2.2.map qd_)]) (fun s=>s.2.1=(l.length:Int)-1-s.1∧s.2.2=swp l s.1∧2*s.1≤l.length+1) (fun s=>l.length+1-s.1) (0,((l.map qd_).length:Int)-1,l) ?_
 conv=>whnf
 refine ⟨(by (refine qa_ ?_;refine Sel4.mk rfl rfl ?_ ?_<;>(repeat' first|exact True.intro|exact rfl|exact .inl rfl|exact .inr rfl|refine And.intro ?_ ?_|fail))),⟨by simp,(swp_0 l).symm,by omega⟩,fun s hs=>?_⟩
 obtain ⟨i,j,d⟩:=s
 obtain ⟨hj,hd,hi⟩:=hs
 dsimp only at hj hd hi
 have hdl:d.length=l.length:=by rw [hd,zbv_]
 repeat' first|(refine fun (b:Bool) hb=>?_;cases b<;>first|exact absurd hb (by decide)|exact nfl hb|exact nfr hb|skip)|refine ⟨_,⟨rfl,rfl⟩,?_⟩|fail
 ·have hij:¬ (i:Int)<j:=of_decide_eq_false (by assumption)
  have:d=l.reverse:=by rw [hd,zbu_ _ _ (by omega)]
  rw [this]
  conv=>whnf
  exact hK
 have hij:(i:Int)<j:=of_decide_eq_true (by assumption)
 obtain ⟨k,hk⟩:∃ k:Nat,j=k:=⟨j.toNat,by omega⟩
 subst hk
 have hkl:k<d.length:=by omega
 have hil:i<d.length:=by omega
 have gk:(List.map qd_ d)[k]?=some (qd_ d[k]):=by rw [List.getElem?_map,List.getElem?_eq_getElem hkl];rfl
 have gi:(List.map qd_ d)[i]?=some (qd_ d[i]):=by rw [List.getElem?_map,List.getElem?_eq_getElem hil];rfl
 refine ⟨_,⟨rfl,k,rfl,by simpa using hkl,⟨rfl,rfl⟩⟩,?_⟩
 repeat' first|exact True.intro|refine And.intro (a:=qj_ _ _ _ _ _ _ _ _) ?_ ?_|fail
 conv=>whnf
 refine ⟨_,⟨_,gk,⟨rfl,rfl⟩⟩,?_⟩
 repeat' first|exact True.intro|refine ⟨_,⟨rfl,rfl⟩,?_⟩|refine And.intro (a:=qj_ _ _ _ _ _ _ _ _) ?_ ?_|fail
 conv=>whnf
 refine ⟨_,⟨rfl,i,rfl,by simpa using hil,⟨rfl,rfl⟩⟩,?_⟩
 repeat' first|exact True.intro|refine And.intro (a:=qj_ _ _ _ _ _ _ _ _) ?_ ?_|fail
 conv=>whnf
 refine ⟨_,⟨_,gi,⟨rfl,rfl⟩⟩,?_⟩
 repeat' first|exact True.intro|refine And.intro (a:=qj_ _ _ _ _ _ _ _ _) ?_ ?_|fail
 conv=>whnf
 refine ⟨_,⟨rfl,i,rfl,by simpa using hil,⟨rfl,rfl⟩⟩,?_⟩
 repeat' first|exact True.intro|refine And.intro (a:=qj_ _ _ _ _ _ _ _ _) ?_ ?_|fail
 refine ⟨_,_,⟨by simpa using hil,rfl,rfl⟩,?_⟩
 repeat' first|exact True.intro|refine And.intro (a:=qx_ _ _ _ _ _ _) ?_ ?_|fail
 conv=>whnf
 refine ⟨_,⟨rfl,k,rfl,by simpa using hkl,⟨rfl,rfl⟩⟩,?_⟩
 repeat' first|exact True.intro|refine And.intro (a:=qj_ _ _ _ _ _ _ _ _) ?_ ?_|fail
 conv=>whnf
 refine ⟨_,_,⟨by simpa using hkl,rfl,rfl⟩,?_⟩
 repeat' first|exact True.intro|refine And.intro (a:=I64 _) ?_ ?_|refine And.intro (a:=qx_ _ _ _ _ _ _) ?_ ?_|fail
 ·unfold I64
  dsimp only
  omega
 ·unfold I64
  dsimp only
  omega
 have ek:k=l.length-1-i:=by omega
 have e1:d[k]=l.getD k 0:=by
  have h:=q8z_ l i k (by omega) (by omega)
  rw [←hd,List.getElem?_eq_getElem hkl] at h
  exact Option.some.inj h
 have e2:d[i]=l.getD i 0:=by
  have h:=q8z_ l i i (by omega) (by omega)
  rw [←hd,List.getElem?_eq_getElem hil] at h
  exact Option.some.inj h
 refine ⟨(i+1,(k:Int)-1,(d.set i d[k]).set k d[i]),?_,⟨?_,?_,?_⟩,?_⟩
 rotate_left
 ·show (k:Int)-1=(l.length:Int)-1-((i+1:Nat):Int)
  omega
 ·show (d.set i d[k]).set k d[i]=swp l (i+1)
  rw [e1,e2,hd,ek]
  exact q7k_ l i (by omega)
 ·show 2*(i+1)≤l.length+1
  omega
 ·show l.length+1-(i+1)<l.length+1-i
  omega
 (refine qa_ ?_;refine Sel4.mk rfl rfl ?_ ?_<;>(repeat' first|exact True.intro|exact rfl|exact .inl rfl|exact .inr rfl|refine And.intro ?_ ?_|fail))
 all_goals try (show Row.row 1 _=Row.row 1 _)
 simp [List.map_set]
end Gv
namespace Gv
variable [Glob] [Laid]
theorem zda_:qb_ Tryz.prog 154=true:=by kernel_rfl
def one_S:Spec:=fun args K=>∃ (c:Cmd) (s:Bs),args=[cmdV c,.str s]∧(qz_ c=0∧s.length≤900000000)∧K (.tup [.str (oneC c s).1,.bool (oneC c s).2])
noncomputable def zao_:List (Nat × Spec):=[(147,qa8_),(206,qh1_),(148,qek_)]
noncomputable def zam_:List (Nat × FnI):=[]
noncomputable def q02_:List (Nat × qn_):=[(207,q8r_)]
theorem one_E:EnvOK ⟨Tryz.prog,tys,zao_,zam_,q02_,[]⟩:=qs_ qt_ tys0 (.cons qds_ qdt_ (.cons qqu_ qqv_ (.cons qf6_ qf7_ .nil))) .nil (.cons q17_ .nil) rfl
theorem zdb_:Pure Tryz.prog 154 one_S:=by
 refine qp_ one_E 6 (fi:={fn:=Tryz.f154,hooks:=[],draws:=[(7,[0,0,2,6,0,16,48,127,255,511])]}) ⟨Tryz.func154,by kernel_rfl,by kernel_rfl⟩ ?_
 rintro _ K ⟨c,s,rfl,⟨hc,hs⟩,hK⟩
 replace hK:∀ r,r=.tup [.str (oneC c s).1,.bool (oneC c s).2]→K r:=fun r h=>h ▸ hK
 have hsw:=@qf5_ [32] (Lib.count s [32]) s
 have hsn:0<(Lib.split s [32]).length:=List.length_pos_iff.2 (qel_ s [32])
 have hcn:c.kind=4→1≤c.n:=fun h=>by
  unfold qz_ useN at hc
  grind
 have hcw:=@zbz_ c hc
 have hsl:(Lib.split s [32]).length≤1000000000:=by
  rw [qnn_ _ _ (by decide),Lib.count_one]
  have:=List.count_le_length (a:=(32:UInt8)) (l:=s)
  omega
 have hone:∀ r:Bs × Bool,oneC c s=r→K (.tup [.str r.1,.bool r.2]):=fun r h=>hK _ (by rw [h])
 unfold oneC at hone
 repeat' first|exact True.intro|(refine fun (b:Bool) hb=>?_;cases b<;>first|exact absurd hb (by decide)|exact nfl hb|exact nfr hb|skip)|refine And.intro (a:=_≤140737488355328) ?_ ?_|refine ⟨_,⟨rfl,rfl⟩,?_⟩|refine And.intro (a:=qj_ _ _ _ _ _ _ _ _) ?_ ?_|refine Opt.b ?_|fail
 ·
  omega
 ·refine ⟨s,rfl,rfl,by omega,?_⟩
  skip
  refine ⟨s.reverse,rfl,rfl,?_⟩
  skip
  have h1:¬ c.kind=1:=of_decide_eq_false (by assumption)
  have h2:¬ c.kind=2:=of_decide_eq_false (by assumption)
  have h3:¬ c.kind=3:=of_decide_eq_false (by assumption)
  have h4:¬ c.kind=4:=of_decide_eq_false (by assumption)
  rw [if_neg h1,if_neg h2,if_neg h3,if_neg h4] at hone
  exact hone _ rfl
 ·
  have h4:c.kind=4:=of_decide_eq_true (by assumption)
  have:=hcn h4
  refine ⟨s,[32],rfl,⟨by omega,by decide⟩,?_⟩
  rw [if_neg (by omega),if_neg (by omega),if_neg (by omega),if_pos h4] at hone
  repeat' first|(refine fun (b:Bool) hb=>?_;cases b<;>first|exact absurd hb (by decide)|exact nfl hb|exact nfr hb|skip)|(refine fun (hl:_≤MAXL)=>?_)|refine And.intro (a:=I64 _) ?_ ?_|fail
  ·have hle:¬ ((Lib.split s [32]).length:Int)<c.n:=of_decide_eq_false (by assumption)
   (first|omega|(unfold I64;omega)|(simp only [List.length_append,List.length_map,List.length_cons,List.length_nil,Nat.mul_one,Int.ofNat_eq_natCast] at *;omega)|(dsimp only at *;omega)|(unfold I64;dsimp only at *;omega)|(unfold I64;grind)|grind)
  ·have hle:¬ ((Lib.split s [32]).length:Int)<c.n:=of_decide_eq_false (by assumption)
   have hlt:(c.n-1).toNat<(Lib.split s [32]).length:=by omega
   refine ⟨(c.n-1).toNat,by omega,hlt,rfl,?_⟩
   skip
   rw [if_neg hle] at hone
   have e:(Lib.split s [32]).getD (c.n-1).toNat []=(Lib.split s [32])[(c.n-1).toNat]:=by rw [List.getD_eq_getElem?_getD,List.getElem?_eq_getElem hlt];rfl
   rw [e] at hone
   exact hone _ rfl
  ·have hle:((Lib.split s [32]).length:Int)<c.n:=of_decide_eq_true (by assumption)
   rw [if_pos hle] at hone
   exact hone _ rfl
 ·
  have h3:c.kind=3:=of_decide_eq_true (by assumption)
  obtain ⟨x,y,hw⟩:=hcw h3
  rw [if_neg (by omega),if_neg (by omega),if_pos h3] at hone
  obtain ⟨ck,cw,cn⟩:=c
  dsimp only at hw
  subst hw
  refine ⟨_,⟨0,1,rfl,rfl,by decide,by show 1≤2;decide,rfl,rfl⟩,?_⟩
  repeat' first|exact True.intro|refine ⟨_,⟨rfl,rfl⟩,?_⟩|refine And.intro (a:=qj_ _ _ _ _ _ _ _ _) ?_ ?_|fail
  conv=>whnf
  refine ⟨_,⟨1,2,rfl,rfl,by decide,by show 2≤2;decide,rfl,rfl⟩,?_⟩
  skip
  have hr:=qbg_ x y s
  have hl:(Lib.replaceAll s [x] [y]).length=s.length:=by rw [hr];simp
  have hcs:Lib.count s [x]≤s.length:=by rw [Lib.count_one];exact List.count_le_length
  apply Exists.intro
  apply And.intro
  ·refine ⟨s,[x],[y],rfl,⟨by omega,by show 1≤1;decide,by show s.length+Lib.count s [x] * 1≤_;omega,by rw [hl];unfold MAXL;omega⟩,?_⟩
   exact ⟨rfl,rfl⟩
  repeat' first|refine ⟨_,⟨rfl,rfl⟩,?_⟩|fail
  exact hone _ rfl
 ·have h:c.kind=2:=of_decide_eq_true (by assumption)
  refine ⟨s,c.word,rfl,by omega,?_⟩
  skip
  rw [if_neg (by omega),if_pos h] at hone
  exact hone _ rfl
 ·have h:c.kind=1:=of_decide_eq_true (by assumption)
  refine ⟨s,c.word,rfl,by omega,?_⟩
  skip
  rw [if_pos h] at hone
  exact hone _ rfl
end Gv
namespace Gv
variable [Glob] [Laid] [Nums]
theorem qru_ (w:World) (k:Nat) (os:Array Obj):Bel [] w (Go.Sort.grow (w.drewN k) os) :=
 ⟨rfl,rfl,rfl,by rw [Go.Sort.size_grow];exact Nat.le_add_right _ _,fun i hi _=>Go.Sort.heap_grow_old (w.drewN k) os hi⟩
theorem qe8_:qb_ Tryz.prog 150=true:=by kernel_rfl
def qhk_:Spec:=fun args K=>∃ (n:Int),args=[.int .i64 n]∧I64 n∧K (.str (Lib.itoa n))
theorem qe9_:Pure Tryz.prog 150 qhk_:=by
 intro w m args us K hm hg hv hT
 obtain ⟨n,rfl,h1,hK⟩:=hT
 obtain ⟨a,rfl,ha⟩:=zcc_ hv.1 hv.2
 cases ha
 refine (Tryz.strconv_Itoa n h1.1 h1.2 w (Nums.pow10 w (fun b o e=>hm b o (hg b o e)))).mono fun e w' ⟨he,k,os,hw⟩=>?_
 subst hw
 have:=qeb_ n h1
 exact ⟨_,_,he,qru_ w k os,hK,.str (by unfold MAXL;omega)⟩
end Gv
namespace Gv
variable [Glob] [Laid]
theorem qtm_:qb_ Tryz.prog 152=true:=by kernel_rfl
def qq2_:qn_:=fun args rows K=>(∃ (l:List Bs),args=[.own 0]∧rows=[.row 1 (l.map strV)]∧l.length<4611686018427387904∧K (.tup []) [.row 1 ((qj9_ l).map strV)])∨(args=[.nil]∧rows=[]∧K (.tup []) [])
theorem qh4_:q1_ Tryz.prog 152 qq2_:=by
 intro w0 m0 args rows k R m q w us C hv hT
 rcases hT with ⟨l,rfl,rfl,hl,hK⟩|⟨rfl,rfl,hK⟩
 rotate_left
 ·obtain ⟨u,rfl,hu⟩:=qkj_ hv
  refine ⟨qtm_,?_⟩
  cases hu
  refine (Tryz.slices_Sort_string_none none 0 w).mono fun e w' ⟨he,hw⟩=>?_
  subst hw
  exact ⟨_,he,_,_,_,_,_,hK,C,Mem.Le.refl m,Loc.Le.refl q,.tup (us:=[]) rfl fun i v u h=>by simp at h⟩
 obtain ⟨u,rfl,hu⟩:=qkj_ hv
 refine ⟨qtm_,?_⟩
 rcases qs1_ C hu with ⟨rfl,rfl⟩|⟨b,cap,arr,T,fz,rfl,h1,h2,h3,h4,h5,h6,h7,h8⟩
 ·refine (Tryz.slices_Sort_string_none none 0 w).mono fun e w' ⟨he,hw⟩=>?_
  subst hw
  have e:qj9_ ([]:List Bs)=[]:=by simp [qj9_]
  rw [e] at hK
  exact ⟨_,he,_,_,_,_,_,hK,C,Mem.Le.refl m,Loc.Le.refl q,.tup (us:=[]) rfl fun i v u h=>by simp at h⟩
 ·have hblk:=C.sit.lt h4
  refine (Tryz.slices_Sort_string b 0 cap l w h7 hblk hl).mono fun e w' ⟨he,n,os,hw⟩=>?_
  obtain ⟨g1,g2⟩:=qd0_ (C.sit.own _ _ h4).2.1 hw
  have C2:=C.strs_put (l':=qj9_ l) h3 h4 h5 h6 h2 h1 (q2y_ l) (fun x hx=>h8 x ((qdi_ l).mem_iff.1 hx)) g1 g2
  exact ⟨_,he,_,_,_,_,_,hK,C2,Mem.Le.refl m,Loc.Le.refl q,.tup (us:=[]) rfl fun i v u h=>by simp at h⟩
end Gv
namespace Gv
variable [Glob] [Laid]
theorem qer_:qb_ Tryz.prog 153=true:=by kernel_rfl
def qg5_:qn_:=fun args rows K=>(∃ (l:List Bs),args=[.own 0]∧rows=[.row 1 (l.map strV)]∧K (.own 1) [.dead,.row 1 ((qay_ l).map strV)])∨(args=[.nil]∧rows=[]∧K .nil [])
theorem qis_:q1_ Tryz.prog 153 qg5_:=by
 intro w0 m0 args rows k R m q w us C hv hT
 rcases hT with ⟨l,rfl,rfl,hK⟩|⟨rfl,rfl,hK⟩
 rotate_left
 ·obtain ⟨u,rfl,hu⟩:=qkj_ hv
  refine ⟨qer_,?_⟩
  cases hu
  refine (Tryz.slices_Compact_string_empty none 0 w).mono fun e w' ⟨he,hw⟩=>?_
  subst hw
  exact ⟨_,he,_,_,_,_,_,hK,C,Mem.Le.refl m,Loc.Le.refl q,.nil⟩
 obtain ⟨u,rfl,hu⟩:=qkj_ hv
 refine ⟨qer_,?_⟩
 rcases qs1_ C hu with ⟨rfl,rfl⟩|⟨b,cap,arr,T,fz,rfl,h1,h2,h3,h4,h5,h6,h7,h8⟩
 ·refine (Tryz.slices_Compact_string_empty none 0 w).mono fun e w' ⟨he,hw⟩=>?_
  subst hw
  have C1:=C.kill (r:=0) rfl
  have C2:=C1.row0 1
  refine ⟨_,he,_,_,_,_,_,hK,C2,Mem.Le.refl m,C1.le_add _,?_⟩
  exact VR.own (zg_ q 1 (none,0,0,1))
 ·have hw0:=(C.sit.own _ _ h4).2.1
  refine (Tryz.slices_Compact_string b 0 cap l w h7 (by unfold MAXL at h2;omega) h1).mono fun e w' ⟨he,n,hw⟩=>?_
  obtain ⟨g1,g2⟩:=qd0_ (w':=w') (n:=n) (d:=(Lib.compact l++List.replicate (l.length-(Lib.compact l).length) ([]:Bs)).toArray) (os:=#[]) hw0 (by rw [hw,Go.Sort.grow_empty])
  have S':=C.sit.write h4 g1 g2
  have hlen:(Lib.compact l++List.replicate (l.length-(Lib.compact l).length) ([]:Bs)).length≤cap:=by
   have:=qmw_ l
   unfold qay_ at this
   simp
   omega
  have he':ElsR m 1 ((qay_ l).map strV) (Go.Sort.putCells Go.Proofs.encStr 0 (Lib.compact l++List.replicate (l.length-(Lib.compact l).length) ([]:Bs)).toArray arr):=fun i x hi=>by
   have hx:=qyw_ (m:=m) (l:=l) (l':=Lib.compact l++List.replicate (l.length-(Lib.compact l).length) ([]:Bs)) h5 hlen (fun x hx=>by
    rcases List.mem_append.1 hx with hx|hx
    ·exact h8 x (q01_ l x hx)
    ·rw [(List.mem_replicate.1 hx).2];exact Nat.zero_le _)
   refine hx i x ?_
   rw [List.map_append,List.getElem?_append_left (show i<((Lib.compact l).map strV).length from (List.getElem?_eq_some_iff.1 hi).1)]
   exact hi
  have e0:([Row.row 1 (l.map strV)].set 0 Row.dead++[.row 1 ((qay_ l).map strV)])=[.dead,.row 1 ((qay_ l).map strV)]:=rfl
  have C2:=C.move (r:=0) (y:=.row 1 ((qay_ l).map strV)) (n':=(qay_ l).length) (c':=cap) (k':=1) rfl rfl h3 S' ⟨some b,cap,by simp [zg_],by simp;have:=qmw_ l;omega,h2,(fun h=>by cases h),fun b' e=>by
   cases e
   exact ⟨_,T,fz,by simp [Mem.put],by rw [yw_];exact h5,he',zal_ (by rw [yw_];exact h6)⟩⟩
  refine ⟨_,he,_,_,_,_,_,hK,C2,Mem.Le.refl m,C.le_add _,?_⟩
  exact VR.own (zg_ q 1 (some b,(qay_ l).length,cap,1))
end Gv
namespace Gv
variable [Glob] [Laid] [Nums]
theorem qfb_:qb_ Tryz.prog 91=true:=by kernel_rfl
def qed_:Spec:=fun args K=>∃ (c:Cmd) (l:List Bs),args=[cmdV c,.sl strV l]∧(qz_ c=0∧l.length≤900000000∧∀ s∈l,s.length≤900000000)∧K (.sl strV (zq_ c l))
noncomputable def qvn_:List (Nat × Spec):=[(154,one_S),(150,qhk_)]
noncomputable def qvm_:List (Nat × FnI):=[(131,{fn:=Tryz.f131,hooks:=[],draws:=[]})]
noncomputable def qme_:List (Nat × qn_):=[(152,qq2_),(153,qg5_)]
theorem q5p_:EnvOK ⟨Tryz.prog,tys,qvn_,qvm_,qme_,[]⟩:=qs_ qt_ tys0 (.cons zda_ zdb_ (.cons qe8_ qe9_ .nil)) (.cons (by kernel_rfl) ⟨Tryz.func131,by kernel_rfl,by kernel_rfl⟩ .nil) (.cons qh4_ (.cons qis_ .nil)) rfl
theorem qfc_:Pure Tryz.prog 91 qed_:=by
 refine qp_ q5p_ 6 (fi:={fn:=Tryz.f91,hooks:=[],draws:=[]}) ⟨Tryz.func91,by kernel_rfl,by kernel_rfl⟩ ?_
 rintro _ K ⟨c,l,rfl,⟨hc,hl,hs⟩,hK⟩
 replace hK:∀ r,r=.sl strV (zq_ c l)→K r:=fun r h=>h ▸ hK
 have hcn:c.kind=9∨c.kind=10→1≤c.n∧c.n≤1000:=fun h=>by
  unfold qz_ useN at hc
  grind
 have hone:∀ r:List Bs,zq_ c l=r→K (.sl strV r):=fun r h=>hK _ (by rw [h])
 unfold zq_ at hone
 repeat' first|(refine fun (b:Bool) hb=>?_;cases b<;>first|exact absurd hb (by decide)|exact nfl hb|exact nfr hb|skip)|(refine fun (hl:_≤MAXL)=>?_)|refine And.intro (a:=I64 _) ?_ ?_|refine And.intro (a:=_≤140737488355328) ?_ ?_|refine ⟨(fun _=>rfl),?_⟩|fail
 ·
  have h6:¬ c.kind=6:=of_decide_eq_false (by assumption)
  have h7:¬ c.kind=7:=of_decide_eq_false (by assumption)
  have h8:¬ c.kind=8:=of_decide_eq_false (by assumption)
  have h9:¬ c.kind=9:=of_decide_eq_false (by assumption)
  have h10:¬ c.kind=10:=of_decide_eq_false (by assumption)
  rw [if_neg h6,if_neg h7,if_neg h8,if_neg h9,if_neg h10] at hone
  conv=>whnf
  refine qg_ [2,51,52] (σ:=Nat × List Bs) (fun s=>[(53,.int .i64 s.1),(5,.own 1)]) (fun s=>[.box (cmdV c).cells,.row 1 (s.2.map strV)]) (fun s=>s.2=(l.take s.1).filterMap (outC c)∧s.1≤l.length) (fun s=>l.length-s.1) (0,[]) ?_
  conv=>whnf
  refine ⟨(by (refine qa_ ?_;refine Sel4.mk rfl rfl ?_ ?_<;>(repeat' first|exact True.intro|exact rfl|exact .inl rfl|exact .inr rfl|refine And.intro ?_ ?_|fail))),⟨by simp,Nat.zero_le _⟩,fun s hs=>?_⟩
  obtain ⟨i,out⟩:=s
  obtain ⟨ho,hi⟩:=hs
  dsimp only at ho hi
  have hol:out.length≤900000000:=by
   rw [ho]
   have:=List.length_filterMap_le (outC c) (l.take i)
   simp only [List.length_take] at this
   omega
  repeat' first|refine ⟨_,_,_,LeL.refl _,?_⟩|(refine fun (b:Bool) hb=>?_;cases b<;>first|exact absurd hb (by decide)|exact nfl hb|exact nfr hb|skip)|refine ⟨_,rfl,?_,rfl,?_⟩|fail
  ·have h:¬ (i:Int)<(l.length:Int):=of_decide_eq_false (by assumption)
   have e:i=l.length:=by omega
   rw [e,List.take_length] at ho
   conv=>whnf
   exact hone _ ho.symm
  all_goals have hlt:i<l.length:=by grind
  ·exact hlt
  refine ⟨c,l[i],rfl,⟨hc,hs _ (List.getElem_mem hlt)⟩,?_⟩
  have hnx:(l.take (i+1)).filterMap (outC c)=out++(match oneC c l[i] with|(t,true)=>[t]|(_,false)=>[]):=by
   rw [List.take_succ_eq_append_getElem hlt,List.filterMap_append,←ho]
   congr 1
   simp only [List.filterMap_cons,List.filterMap_nil]
   unfold outC
   generalize oneC c l[i]=p
   obtain ⟨t,b⟩:=p
   cases b<;>rfl
  obtain ⟨p,hp⟩:∃ p,oneC c l[i]=p:=⟨_,rfl⟩
  rw [hp] at hnx ⊢
  obtain ⟨t,b⟩:=p
  cases b
  ·repeat' first|(refine fun (b:Bool) hb=>?_;cases b<;>first|exact absurd hb (by decide)|exact nfl hb|exact nfr hb|skip)|refine And.intro (a:=I64 _) ?_ ?_|fail
   ·(first|omega|(unfold I64;omega)|(simp only [List.length_append,List.length_map,List.length_cons,List.length_nil,Nat.mul_one,Int.ofNat_eq_natCast] at *;omega)|(dsimp only at *;omega)|(unfold I64;dsimp only at *;omega)|(unfold I64;grind)|grind)
   refine ⟨(i+1,out),(by (refine qa_ ?_;refine Sel4.mk rfl rfl ?_ ?_<;>(repeat' first|exact True.intro|exact rfl|exact .inl rfl|exact .inr rfl|refine And.intro ?_ ?_|fail))),⟨?_,hlt⟩,?_⟩
   ·show out=_
    rw [hnx]
    simp
   ·show l.length-(i+1)<l.length-i
    omega
  ·repeat' first|(refine fun (b:Bool) hb=>?_;cases b<;>first|exact absurd hb (by decide)|exact nfl hb|exact nfr hb|skip)|refine And.intro (a:=I64 _) ?_ ?_|refine And.intro (a:=_≤140737488355328) ?_ ?_|refine ⟨rfl,?_⟩|fail
   ·show ((out.map strV).length+1)*16≤140737488355328
    rw [List.length_map]
    omega
   ·(first|omega|(unfold I64;omega)|(simp only [List.length_append,List.length_map,List.length_cons,List.length_nil,Nat.mul_one,Int.ofNat_eq_natCast] at *;omega)|(dsimp only at *;omega)|(unfold I64;dsimp only at *;omega)|(unfold I64;grind)|grind)
   refine ⟨(i+1,out++[t]),?_,⟨?_,hlt⟩,?_⟩
   rotate_left
   ·show out++[t]=_
    rw [hnx]
   ·show l.length-(i+1)<l.length-i
    omega
   (refine qa_ ?_;refine Sel4.mk rfl rfl ?_ ?_<;>(repeat' first|exact True.intro|exact rfl|exact .inl rfl|exact .inr rfl|refine And.intro ?_ ?_|fail))
   show Row.row 1 _=Row.row 1 _
   simp
   rfl
 ·obtain ⟨h1,h2⟩:=hcn (.inr (of_decide_eq_true (by assumption)))
  (first|omega|(unfold I64;omega)|(simp only [List.length_append,List.length_map,List.length_cons,List.length_nil,Nat.mul_one,Int.ofNat_eq_natCast] at *;omega)|(dsimp only at *;omega)|(unfold I64;dsimp only at *;omega)|(unfold I64;grind)|grind)
 ·obtain ⟨h1,h2⟩:=hcn (.inr (of_decide_eq_true (by assumption)))
  have h6:¬ c.kind=6:=of_decide_eq_false (by assumption)
  have h7:¬ c.kind=7:=of_decide_eq_false (by assumption)
  have h8:¬ c.kind=8:=of_decide_eq_false (by assumption)
  have h9:¬ c.kind=9:=of_decide_eq_false (by assumption)
  have h10:c.kind=10:=of_decide_eq_true (by assumption)
  rw [if_neg h6,if_neg h7,if_neg h8,if_neg h9,if_pos h10] at hone
  conv=>whnf
  refine ⟨l.length-c.n.toNat,by omega,by omega,?_⟩
  repeat' first|refine ⟨_,_,_,LeL.refl _,?_⟩|(refine fun (b:Bool) hb=>?_;cases b<;>first|exact absurd hb (by decide)|exact nfl hb|exact nfr hb|skip)|refine And.intro (a:=_≤140737488355328) ?_ ?_|refine ⟨(fun _=>rfl),?_⟩|fail
  ·show (0+((l.drop (l.length-c.n.toNat)).map strV).length)*16≤140737488355328
   rw [List.length_map,List.length_drop]
   omega
  ·exact hone _ rfl
  ·have h:true=true→l.drop (l.length-c.n.toNat)=[]:=by assumption
   refine ⟨_,strV,hone _ (h rfl)⟩
 ·obtain ⟨h1,h2⟩:=hcn (.inl (of_decide_eq_true (by assumption)))
  have h6:¬ c.kind=6:=of_decide_eq_false (by assumption)
  have h7:¬ c.kind=7:=of_decide_eq_false (by assumption)
  have h8:¬ c.kind=8:=of_decide_eq_false (by assumption)
  have h9:c.kind=9:=of_decide_eq_true (by assumption)
  rw [if_neg h6,if_neg h7,if_neg h8,if_pos h9] at hone
  conv=>whnf
  have ht:l.take (min c.n.toNat l.length)=l.take c.n.toNat:=by
   rw [←List.take_take,List.take_length]
  refine ⟨min c.n.toNat l.length,by omega,by omega,?_⟩
  repeat' first|refine ⟨_,_,_,LeL.refl _,?_⟩|(refine fun (b:Bool) hb=>?_;cases b<;>first|exact absurd hb (by decide)|exact nfl hb|exact nfr hb|skip)|refine And.intro (a:=_≤140737488355328) ?_ ?_|refine ⟨(fun _=>rfl),?_⟩|fail
  ·show (0+((l.take (min c.n.toNat l.length)).map strV).length)*16≤140737488355328
   rw [List.length_map,List.length_take]
   omega
  ·exact hone _ ht.symm
  ·have h:true=true→l.take (min c.n.toNat l.length)=[]:=by assumption
   refine ⟨_,strV,hone _ (ht.symm.trans (h rfl))⟩
 ·have h6:¬ c.kind=6:=of_decide_eq_false (by assumption)
  have h7:¬ c.kind=7:=of_decide_eq_false (by assumption)
  have h8:c.kind=8:=of_decide_eq_true (by assumption)
  rw [if_neg h6,if_neg h7,if_pos h8] at hone
  refine ⟨l.length,rfl,⟨by omega,by omega⟩,?_⟩
  skip
  refine ⟨Bs,strV,[Lib.itoa l.length],LeL.refl _,?_⟩
  exact hone _ rfl
 ·show (0+(l.map strV).length)*16≤140737488355328
  rw [List.length_map]
  omega
 ·refine .inl ⟨l,rfl,rfl,?_⟩
  repeat' first|refine ⟨_,_,_,LeL.refl _,?_⟩|fail
  have h6:¬ c.kind=6:=of_decide_eq_false (by assumption)
  have h7:c.kind=7:=of_decide_eq_true (by assumption)
  rw [if_neg h6,if_pos h7] at hone
  exact hone _ rfl
 ·have h:true=true→l=[]:=by assumption
  refine .inr ⟨rfl,rfl,?_⟩
  skip
  have h6:¬ c.kind=6:=of_decide_eq_false (by assumption)
  have h7:c.kind=7:=of_decide_eq_true (by assumption)
  rw [if_neg h6,if_pos h7,h rfl] at hone
  exact ⟨_,strV,hone [] (by simp [qay_,Lib.compact,Lib.compactUpTo])⟩
 ·show (0+(l.map strV).length)*16≤140737488355328
  rw [List.length_map]
  omega
 ·refine .inl ⟨l,rfl,rfl,by omega,?_⟩
  repeat' first|refine ⟨_,_,_,LeL.refl _,?_⟩|fail
  have h6:c.kind=6:=of_decide_eq_true (by assumption)
  rw [if_pos h6] at hone
  exact hone _ rfl
 ·have h:true=true→l=[]:=by assumption
  refine .inr ⟨rfl,rfl,?_⟩
  skip
  have h6:c.kind=6:=of_decide_eq_true (by assumption)
  rw [if_pos h6,h rfl] at hone
  exact ⟨_,strV,hone [] (by simp [qj9_])⟩
end Gv
namespace Gv
variable [Glob] [Laid]
def qxo_:Option (Nat × Bs)→Int
 | none=>-1
 | some (j,_)=>j
theorem q0p_:qb_ Tryz.prog 167=true:=by kernel_rfl
def qss_:Spec:=fun args K=>∃ p:List (List Bs),args=[.sl lsV p]∧(p.flatten.length≤1000000000∧p.length≤1000)∧K (.sl strV (yv_ p))
noncomputable def qv1_:List (Nat × Spec):=[]
noncomputable def qv0_:List (Nat × FnI):=[(218,{fn:=Tryz.f218,hooks:=[],draws:=[]})]
noncomputable def qmm_:List (Nat × qn_):=[]
theorem q5w_:EnvOK ⟨Tryz.prog,tys,qv1_,qv0_,qmm_,[]⟩:=qs_ qt_ tys0 .nil (.cons (by kernel_rfl) ⟨Tryz.func218,by kernel_rfl,by kernel_rfl⟩ .nil) .nil rfl
theorem q0q_:Pure Tryz.prog 167 qss_:=by
 refine qp_ q5w_ 6 (fi:={fn:=Tryz.f167,hooks:=[2],draws:=[(7,[0,1,3,7,15,31,63,127,255,511,127,127,3199,7295,15487,31871,65535,131071,262143]),(12,[0,0,0,0,0,24,56,120,248,504,1020,0,0,6144,14336,30720,2044,131071,262143])]}) ⟨Tryz.func167,by kernel_rfl,by kernel_rfl⟩ ?_
 rintro _ K ⟨p,rfl,⟨hp1,hp2⟩,hK⟩
 replace hK:∀ r,r=.sl strV (yv_ p)→K r:=fun r h=>h ▸ hK
 conv=>whnf
 refine ql_ [] (σ:=Unit) (fun _=>[(0,.own 0)]) (fun _=>[.row 1 (p.map lsV)]) (fun _=>True) ?_
 conv=>whnf
 refine ⟨?_,fun _ _=>?_⟩
 ·repeat' first|(refine fun (b:Bool) hb=>?_;cases b<;>first|exact absurd hb (by decide)|exact nfl hb|exact nfr hb|skip)|refine And.intro (a:=_≤140737488355328) ?_ ?_|refine ⟨(fun _=>rfl),?_⟩|fail
  ·show (0+(p.map lsV).length)*24≤140737488355328
   rw [List.length_map]
   omega
  ·exact ⟨(),(by (refine qa_ ?_;refine Sel4.mk rfl rfl ?_ ?_<;>(repeat' first|exact True.intro|exact rfl|exact .inl rfl|exact .inr rfl|refine And.intro ?_ ?_|fail))),trivial⟩
  ·have h:true=true→p=[]:=by assumption
   rw [h rfl]
   exact ⟨(),(by (refine qa_ ?_;refine Sel4.mk rfl rfl ?_ ?_<;>(repeat' first|exact True.intro|exact rfl|exact .inl rfl|exact .inr rfl|refine And.intro ?_ ?_|fail))),trivial⟩
 skip
 conv=>whnf
 refine qg_ [0] (σ:=List (List Bs) × List Bs) (fun s=>[(3,.own 1)]) (fun s=>[.row 1 (s.1.map lsV),.row 1 (s.2.map strV)]) (fun s=>s.2++yv_ s.1=yv_ p∧s.1.length=p.length∧s.2.length+s.1.flatten.length=p.flatten.length) (fun s=>s.1.flatten.length) (p,[]) ?_
 conv=>whnf
 refine ⟨(by (refine qa_ ?_;refine Sel4.mk rfl rfl ?_ ?_<;>(repeat' first|exact True.intro|exact rfl|exact .inl rfl|exact .inr rfl|refine And.intro ?_ ?_|fail))),⟨rfl,rfl,by simp⟩,fun s hs=>?_⟩
 obtain ⟨q,out⟩:=s
 obtain ⟨h1,h2,h3⟩:=hs
 dsimp only at h1 h2 h3
 repeat' first|(refine fun (hl:_≤MAXL)=>?_)|fail
 conv=>whnf
 refine qg_ [0,3,9,10] (σ:=Nat) (fun i=>[(11,.int .i64 i),(4,.int .i64 (qxo_ (best q i)))]) (fun s=>[.row 1 (q.map lsV),.row 1 (out.map strV)]) (fun i=>i≤q.length) (fun i=>q.length-i) 0 ?_
 conv=>whnf
 refine ⟨(by (refine qa_ ?_;refine Sel4.mk rfl rfl ?_ ?_<;>(repeat' first|exact True.intro|exact rfl|exact .inl rfl|exact .inr rfl|refine And.intro ?_ ?_|fail))),Nat.zero_le _,fun i hi=>?_⟩
 repeat' first|refine ⟨_,_,_,LeL.refl _,?_⟩|(refine fun (b:Bool) hb=>?_;cases b<;>first|exact absurd hb (by decide)|exact nfl hb|exact nfr hb|skip)|refine ⟨_,⟨rfl,rfl⟩,?_⟩|refine ⟨rfl,?_⟩|fail
 ·
  have hge:¬ (i:Int)<((q.map lsV).length:Int):=of_decide_eq_false (by assumption)
  rw [List.length_map] at hge
  have ei:i=q.length:=by omega
  have hb:¬ qxo_ (best q i)<0:=of_decide_eq_false (by assumption)
  obtain ⟨j,s,hbt⟩:∃ j s,best q i=some (j,s):=by
   cases hq:best q i with
   | none=>rw [hq] at hb;exact absurd (show (-1:Int)<0 by decide) hb
   | some x=>exact ⟨x.1,x.2,rfl⟩
  have hbt2:best q q.length=some (j,s):=by rw [←ei];exact hbt
  obtain ⟨hji,⟨r,hjr⟩,-⟩:=yl_ hbt2
  have hqj:q[j]=s::r:=by rw [List.getD_eq_getElem?_getD,List.getElem?_eq_getElem hji] at hjr;exact hjr
  have hgj:(q.map lsV)[j]?=some (lsV q[j]):=by rw [List.getElem?_map,List.getElem?_eq_getElem hji];rfl
  have hpj:0<q[j].length:=by rw [hqj];exact Nat.succ_pos _
  have hj0:∀ h:0<q[j].length,q[j][0]=s:=fun h=>by simp [hqj]
  have hms:=qbd_ hbt2
  have hfl:=(vq_ hjr).length_eq
  rw [List.length_cons] at hfl
  conv=>whnf
  refine ⟨_,⟨rfl,j,by rw [hbt];rfl,by simpa using hji,⟨rfl,rfl⟩⟩,?_⟩
  repeat' first|exact True.intro|refine And.intro (a:=qj_ _ _ _ _ _ _ _ _) ?_ ?_|fail
  conv=>whnf
  refine ⟨_,⟨_,hgj,⟨rfl,rfl⟩⟩,?_⟩
  repeat' first|exact True.intro|refine ⟨_,⟨rfl,rfl⟩,?_⟩|refine And.intro (a:=qj_ _ _ _ _ _ _ _ _) ?_ ?_|refine ⟨_,⟨_,rfl,?_,rfl,rfl,rfl⟩,?_⟩|fail
  ·exact hpj
  refine ⟨_,⟨Bs,strV,[q[j][0]],LeL.refl _,rfl,rfl⟩,?_⟩
  refine ⟨_,_,⟨fun _=>rfl,?_,rfl,rfl⟩,?_⟩
  ·show ((out.map strV).length+([q[j][0]].map strV).length)*16≤140737488355328
   rw [List.length_map,List.length_map,List.length_singleton]
   omega
  repeat' first|exact True.intro|refine ⟨_,⟨rfl,rfl⟩,?_⟩|refine And.intro (a:=qx_ _ _ _ _ _ _) ?_ ?_|fail
  conv=>whnf
  refine ⟨_,⟨rfl,j,by rw [hbt];rfl,by simpa using hji,⟨rfl,rfl⟩⟩,?_⟩
  repeat' first|refine And.intro (a:=qj_ _ _ _ _ _ _ _ _) ?_ ?_|fail
  ·conv=>whnf
   exact ⟨⟨rfl,j,by rw [hbt];rfl,by simpa using hji,⟨rfl,rfl⟩⟩,trivial⟩
  conv=>whnf
  refine ⟨_,⟨_,hgj,⟨rfl,rfl⟩⟩,?_⟩
  repeat' first|refine And.intro (a:=qj_ _ _ _ _ _ _ _ _) ?_ ?_|fail
  ·conv=>whnf
   exact ⟨⟨_,hgj,⟨rfl,rfl⟩⟩,trivial⟩
  refine ⟨_,⟨fun _=>rfl,1,rfl,hpj,rfl,rfl⟩,?_⟩
  repeat' first|refine ⟨_,⟨rfl,rfl⟩,?_⟩|fail
  conv=>whnf
  refine ⟨_,⟨rfl,j,by rw [hbt];rfl,by simpa using hji,⟨rfl,rfl⟩⟩,?_⟩
  repeat' first|exact True.intro|refine And.intro (a:=qj_ _ _ _ _ _ _ _ _) ?_ ?_|fail
  conv=>whnf
  refine ⟨_,_,⟨by simpa using hji,rfl,rfl⟩,?_⟩
  repeat' first|exact True.intro|refine And.intro (a:=qx_ _ _ _ _ _ _) ?_ ?_|fail
  refine ⟨(q.set j ((q.getD j []).drop 1),out++[s]),?_,⟨?_,?_,?_⟩,?_⟩
  rotate_left
  ·show (out++[s])++yv_ _=_
   rw [←h1,hms,List.append_assoc]
   rfl
  ·show (q.set j _).length=_
   rw [List.length_set,h2]
  ·show (out++[s]).length+(q.set j _).flatten.length=_
   rw [List.length_append,List.length_singleton]
   omega
  ·show (q.set j _).flatten.length<q.flatten.length
   omega
  refine qf_ [some 0,some 2] rfl rfl ⟨?_,?_,trivial⟩ ?_
  ·show Row.row 1 _=Row.row 1 _
   rw [hjr,hqj,List.map_set]
   rfl
  ·show Row.row 1 _=Row.row 1 _
   rw [hj0 hpj,List.map_append]
  ·(repeat' first|exact True.intro|exact rfl|exact .inl rfl|exact .inr rfl|refine And.intro ?_ ?_|fail)
 ·
  have hge:¬ (i:Int)<((q.map lsV).length:Int):=of_decide_eq_false (by assumption)
  rw [List.length_map] at hge
  have ei:i=q.length:=by omega
  have hb:decide (qxo_ (best q i)<0)=true:=by assumption
  have hn:best q q.length=none:=by
   rw [ei] at hb
   cases hq:best q q.length with
   | none=>rfl
   | some x =>
    obtain ⟨j,s⟩:=x
    rw [hq] at hb
    have:=of_decide_eq_true hb
    have this:(j:Int)<0:=this
    omega
  rw [qbc_ hn,List.append_nil] at h1
  conv=>whnf
  exact hK _ (by rw [h1])
 have hlt:i<q.length:=by
  have h:=of_decide_eq_true (by assumption:decide ((i:Int)<((q.map lsV).length:Int))=true)
  rw [List.length_map] at h
  omega
 have hg:(q.map lsV)[i]?=some (lsV q[i]):=by rw [List.getElem?_map,List.getElem?_eq_getElem hlt];rfl
 refine ⟨i,rfl,by simpa using hlt,?_⟩
 conv=>whnf
 refine ⟨_,hg,?_⟩
 have hgd:q.getD i []=q[i]:=by rw [List.getD_eq_getElem?_getD,List.getElem?_eq_getElem hlt];rfl
 have hstep:best q (i+1)=qbm_ (best q i) i q[i]:=by rw [best,hgd]
 repeat' first|(refine fun (b:Bool) hb=>?_;cases b<;>first|exact absurd hb (by decide)|exact nfl hb|exact nfr hb|skip)|refine And.intro (a:=I64 _) ?_ ?_|refine ⟨_,⟨rfl,rfl⟩,?_⟩|refine ⟨_,(fun _=>⟨rfl,rfl⟩),?_⟩|refine ⟨_,⟨_,rfl,?_,rfl,rfl,rfl⟩,?_⟩|fail
 ·unfold I64;omega
 ·have h:¬ (0:Int)<(q[i].length:Int):=of_decide_eq_false (by assumption)
  have h0:q[i]=[]:=List.length_eq_zero_iff.1 (by omega)
  refine ⟨i+1,?_,hlt,by show q.length-(i+1)<q.length-i;omega⟩
  have e:best q (i+1)=best q i:=by rw [hstep,h0];rfl
  rw [e]
  exact (by (refine qa_ ?_;refine Sel4.mk rfl rfl ?_ ?_<;>(repeat' first|exact True.intro|exact rfl|exact .inl rfl|exact .inr rfl|refine And.intro ?_ ?_|fail)))
 ·have h:(0:Int)<(q[i].length:Int):=of_decide_eq_true (by assumption)
  have h0:0<q[i].length:=by omega
  exact h0
 ·have hb:¬ qxo_ (best q i)<0:=of_decide_eq_false (by assumption)
  obtain ⟨j,t,hbt⟩:∃ j t,best q i=some (j,t):=by
   cases hq:best q i with
   | none=>rw [hq] at hb;exact absurd (show (-1:Int)<0 by decide) hb
   | some x=>exact ⟨x.1,x.2,rfl⟩
  obtain ⟨hji,⟨r,hjr⟩,-⟩:=yl_ hbt
  have hjl:j<q.length:=by omega
  have hqj:q[j]=t::r:=by rw [List.getD_eq_getElem?_getD,List.getElem?_eq_getElem hjl] at hjr;exact hjr
  have hgj:(q.map lsV)[j]?=some (lsV q[j]):=by rw [List.getElem?_map,List.getElem?_eq_getElem hjl];rfl
  obtain ⟨s,r',hsr⟩:∃ s r',q[i]=s::r':=by
   have h:(0:Int)<(q[i].length:Int):=of_decide_eq_true (by assumption)
   cases hq:q[i] with
   | nil=>rw [hq] at h;simp at h
   | cons s r=>exact ⟨s,r,rfl⟩
  have hpi:0<q[i].length:=by rw [hsr];exact Nat.succ_pos _
  have hpj:0<q[j].length:=by rw [hqj];exact Nat.succ_pos _
  have hi0:∀ h:0<q[i].length,q[i][0]=s:=fun h=>by simp [hsr]
  have hj0:∀ h:0<q[j].length,q[j][0]=t:=fun h=>by simp [hqj]
  have hstep2:best q (i+1)=if Op.bytesLess s t=true then some (i,s) else some (j,t):=by rw [hstep,hsr,hbt];rfl
  conv=>whnf
  refine ⟨_,⟨rfl,j,by rw [hbt];rfl,by simpa using hjl,⟨rfl,rfl⟩⟩,?_⟩
  repeat' first|exact True.intro|refine And.intro (a:=qj_ _ _ _ _ _ _ _ _) ?_ ?_|fail
  conv=>whnf
  refine ⟨_,⟨_,hgj,⟨rfl,rfl⟩⟩,?_⟩
  repeat' first|exact True.intro|(refine fun (b:Bool) hb=>?_;cases b<;>first|exact absurd hb (by decide)|exact nfl hb|exact nfr hb|skip)|refine And.intro (a:=I64 _) ?_ ?_|refine ⟨_,⟨rfl,rfl⟩,?_⟩|refine And.intro (a:=qj_ _ _ _ _ _ _ _ _) ?_ ?_|refine ⟨_,⟨_,rfl,?_,rfl,rfl,rfl⟩,?_⟩|fail
  all_goals first|exact hpj|(unfold I64;omega)|skip
  ·have hb2:Op.bytesLess q[i][0] q[j][0]=false:=by assumption
   rw [hi0,hj0] at hb2
   rw [hb2] at hstep2
   refine ⟨i+1,?_,hlt,by show q.length-(i+1)<q.length-i;omega⟩
   rw [hstep2,hbt]
   exact (by (refine qa_ ?_;refine Sel4.mk rfl rfl ?_ ?_<;>(repeat' first|exact True.intro|exact rfl|exact .inl rfl|exact .inr rfl|refine And.intro ?_ ?_|fail)))
  ·have hb2:Op.bytesLess q[i][0] q[j][0]=true:=by assumption
   rw [hi0,hj0] at hb2
   rw [hb2] at hstep2
   refine ⟨i+1,?_,hlt,by show q.length-(i+1)<q.length-i;omega⟩
   rw [hstep2]
   exact (by (refine qa_ ?_;refine Sel4.mk rfl rfl ?_ ?_<;>(repeat' first|exact True.intro|exact rfl|exact .inl rfl|exact .inr rfl|refine And.intro ?_ ?_|fail)))
 ·unfold I64;omega
 ·have h:(0:Int)<(q[i].length:Int):=of_decide_eq_true (by assumption)
  have hb:qxo_ (best q i)<0:=of_decide_eq_true (by assumption)
  have hn:best q i=none:=by
   cases hq:best q i with
   | none=>rfl
   | some x =>
    obtain ⟨j,s⟩:=x
    rw [hq] at hb
    have hb:(j:Int)<0:=hb
    omega
  obtain ⟨s,r,hsr⟩:∃ s r,q[i]=s::r:=by
   cases hq:q[i] with
   | nil=>rw [hq] at h;simp at h
   | cons s r=>exact ⟨s,r,rfl⟩
  refine ⟨i+1,?_,hlt,by show q.length-(i+1)<q.length-i;omega⟩
  have e:best q (i+1)=some (i,s):=by rw [hstep,hsr,hn];rfl
  rw [e]
  exact (by (refine qa_ ?_;refine Sel4.mk rfl rfl ?_ ?_<;>(repeat' first|exact True.intro|exact rfl|exact .inl rfl|exact .inr rfl|refine And.intro ?_ ?_|fail)))
end Gv
namespace Gv
variable [Glob] [Laid] [Errs]
theorem q33_:qb_ Tryz.prog 219=true:=by kernel_rfl
def qxm_:Spec:=fun args K=>∃ (s:Bs),args=[.str s]∧s.length≤140737488355328∧(∀ k,Lib.atoiAll s=.ok k→K (.tup [.int .i64 k,.raw .nilIface]))∧∀ n T b,(∀ k,Lib.atoiAll s≠.ok k)→K (.tup [.int .i64 n,.raw (.iface T (.pointer (some ⟨b,0,none⟩)))])
theorem q34_:Pure Tryz.prog 219 qxm_:=by
 intro w m args us K hm hg hv hT
 obtain ⟨s,rfl,h1,hok,herr⟩:=hT
 obtain ⟨a,rfl,ha⟩:=zcc_ hv.1 hv.2
 obtain ⟨rfl,-⟩:=vf_ ha
 have hgw:Sub Glob.mem w:=fun b o e=>hm b o (hg b o e)
 have two:∀ {m:Mem} {n:Int} {u:Value},VR m noLoc (.tup [.int .i64 n,.raw u]) (.tuple #[.int .i64 n,u]):=fun {m n u}=>by
  have h:VRL m noLoc [.int .i64 n,.raw u] [.int .i64 n,u]:=VRL.cons .int (VRL.cons .raw VRL.nil)
  exact .tup h.len h.el
 cases h:Lib.atoiAll s with
 | ok v =>
  refine (Tryz.strconv_Atoi_ok (ba s) (by rw [xu_];omega) v h w).mono fun e w' ⟨he,hw⟩=>?_
  refine ⟨_,_,he,Bel.of_below ?_,hok v h,two⟩
  rcases hw with rfl|⟨t,rfl⟩
  ·exact RowKit.Below.refl _ _
  ·exact Lib.bytesWorld_below _ _ _
 | range =>
  obtain ⟨tp,pv,e1⟩:=Errs.rng w hgw
  refine (Tryz.strconv_Atoi_range_var (ba s) (by rw [xu_];omega) h tp pv w e1).mono fun e w' ⟨N,he,_,_,hw⟩=>?_
  exact ⟨_,_,he,Bel.of_below hw,herr _ _ _ (fun k=>by rw [h];intro x;cases x),two⟩
 | _ =>
  obtain ⟨tp,pv,e1⟩:=Errs.syn w hgw
  refine (Tryz.strconv_Atoi_syntax_var (ba s) (by rw [xu_];omega) h tp pv w e1).mono fun e w' ⟨N,he,_,_,hw⟩=>?_
  exact ⟨_,_,he,Bel.of_below hw,herr _ _ _ (fun k=>by rw [h];intro x;cases x),two⟩
end Gv
namespace Gv
variable [Glob] [Laid] [Errs] [Nums]
theorem zbs_:qb_ Tryz.prog 168=true:=by kernel_rfl
def q8y_:Spec:=fun args K=>∃ p:List (List Bs),args=[.sl lsV p]∧(p.length≤1000∧∀ l∈p,∀ s∈l,s.length≤1000000000)∧K (.int .i64 (sumN p p.length))
noncomputable def q7j_:List (Nat × Spec):=[(219,qxm_),(150,qhk_)]
noncomputable def q7i_:List (Nat × FnI):=[]
noncomputable def qxa_:List (Nat × qn_):=[]
theorem zdp_:EnvOK ⟨Tryz.prog,tys,q7j_,q7i_,qxa_,[]⟩:=qs_ qt_ tys0 (.cons q33_ q34_ (.cons qe8_ qe9_ .nil)) .nil .nil rfl
theorem zbt_:Pure Tryz.prog 168 q8y_:=by
 refine qp_ zdp_ 6 (fi:={fn:=Tryz.f168,hooks:=[],draws:=[(7,[0,1,3,7,15,31,63,127,255,511,1023,2047,4095,2047,10239,26623,65535,131071])]}) ⟨Tryz.func168,by kernel_rfl,by kernel_rfl⟩ ?_
 rintro _ K ⟨p,rfl,⟨hp1,hp2⟩,hK⟩
 replace hK:∀ r,r=.int .i64 (sumN p p.length)→K r:=fun r h=>h ▸ hK
 repeat' first|(refine fun (hl:_≤MAXL)=>?_)|fail
 conv=>whnf
 refine qg_ [8,9] (σ:=Nat × Int) (fun s=>[(10,.int .i64 s.1),(3,.int .i64 s.2)]) (fun s=>[]) (fun s=>s.1≤p.length∧s.2=sumN p s.1) (fun s=>p.length-s.1) (0,0) ?_
 conv=>whnf
 refine ⟨(by (refine qa_ ?_;refine Sel4.mk rfl rfl ?_ ?_<;>(repeat' first|exact True.intro|exact rfl|exact .inl rfl|exact .inr rfl|refine And.intro ?_ ?_|fail))),⟨Nat.zero_le _,rfl⟩,fun s hs=>?_⟩
 obtain ⟨i,acc⟩:=s
 obtain ⟨hi,hacc⟩:=hs
 dsimp only at hi hacc
 have hbd:=qau_ p i
 rw [←hacc] at hbd
 repeat' first|(refine fun (b:Bool) hb=>?_;cases b<;>first|exact absurd hb (by decide)|exact nfl hb|exact nfr hb|skip)|(refine fun (hl:_≤MAXL)=>?_)|refine And.intro (a:=I64 _) ?_ ?_|refine ⟨_,rfl,?_,rfl,?_⟩|fail
 ·have hge:¬ (i:Int)<(p.length:Int):=of_decide_eq_false (by assumption)
  have ei:i=p.length:=by omega
  conv=>whnf
  exact hK _ (by rw [hacc,ei])
 ·have h:=of_decide_eq_true (by assumption:decide ((i:Int)<(p.length:Int))=true)
  show i<p.length
  omega
 all_goals have hlt:i<p.length:=by (have h:=of_decide_eq_true (by assumption:decide ((i:Int)<(p.length:Int))=true);omega)
 all_goals have hgd:p.getD i []=p[i]:=by (rw [List.getD_eq_getElem?_getD,List.getElem?_eq_getElem hlt];rfl)
 all_goals have hnx:sumN p (i+1)=sumN p i+numH p[i]:=by rw [sumN,hgd]
 ·have h:¬ (p[i].length:Int)=0:=of_decide_eq_false (by assumption)
  have h0:0<p[i].length:=by omega
  exact h0
 ·have h:¬ (p[i].length:Int)=0:=of_decide_eq_false (by assumption)
  obtain ⟨s,r,hsr⟩:∃ s r,p[i]=s::r:=by
   cases hq:p[i] with
   | nil=>rw [hq] at h;simp at h
   | cons s r=>exact ⟨s,r,rfl⟩
  have hs0:∀ h:0<p[i].length,p[i][0]=s:=fun h=>by simp [hsr]
  have hp0:0<p[i].length:=by rw [hsr];exact Nat.succ_pos _
  have hsl:s.length≤1000000000:=hp2 _ (List.getElem_mem hlt) s (by rw [hsr];simp)
  have hnh:numH p[i]=qb8_ s:=by rw [hsr];rfl
  conv=>whnf
  refine ⟨p[i][0],rfl,by rw [hs0 hp0];omega,fun k hk=>?_,fun n T b hn=>?_⟩
  ·rw [hs0 hp0] at hk
   have hkb:=Lib.atoiAll_bounds hk
   have hno:qb8_ s=if 0≤k∧k≤4000∧Lib.itoa k=s then k else 0:=by unfold qb8_;rw [hk]
   have hz:∀ h:¬ (0≤k∧k≤4000∧Lib.itoa k=s),sumN p (i+1)=sumN p i:=fun h=>by rw [hnx,hnh,hno,if_neg h];omega
   repeat' first|(refine fun (b:Bool) hb=>?_;cases b<;>first|exact absurd hb (by decide)|exact nfl hb|exact nfr hb|skip)|refine And.intro (a:=I64 _) ?_ ?_|refine ⟨_,⟨rfl,rfl⟩,?_⟩|fail
   ·unfold I64;omega
   ·have h:¬ (0:Int)≤k:=of_decide_eq_false (by assumption)
    exact ⟨(i+1,acc),(by (refine qa_ ?_;refine Sel4.mk rfl rfl ?_ ?_<;>(repeat' first|exact True.intro|exact rfl|exact .inl rfl|exact .inr rfl|refine And.intro ?_ ?_|fail))),⟨hlt,by show acc=_;rw [hz (fun e=>h e.1),hacc]⟩,by show p.length-(i+1)<p.length-i;omega⟩
   ·unfold I64;omega
   ·have h:¬ k≤4000:=of_decide_eq_false (by assumption)
    exact ⟨(i+1,acc),(by (refine qa_ ?_;refine Sel4.mk rfl rfl ?_ ?_<;>(repeat' first|exact True.intro|exact rfl|exact .inl rfl|exact .inr rfl|refine And.intro ?_ ?_|fail))),⟨hlt,by show acc=_;rw [hz (fun e=>h e.2.1),hacc]⟩,by show p.length-(i+1)<p.length-i;omega⟩
   apply Exists.intro
   apply And.intro
   ·refine ⟨k,rfl,hkb,?_⟩
    exact ⟨rfl,rfl⟩
   repeat' first|(refine fun (b:Bool) hb=>?_;cases b<;>first|exact absurd hb (by decide)|exact nfl hb|exact nfr hb|skip)|refine And.intro (a:=I64 _) ?_ ?_|refine ⟨_,⟨rfl,rfl⟩,?_⟩|refine ⟨_,⟨_,rfl,?_,rfl,rfl,rfl⟩,?_⟩|fail
   ·exact hp0
   ·unfold I64;omega
   ·have h:¬ Lib.itoa k=p[i][0]:=of_decide_eq_false (by assumption)
    rw [hs0 hp0] at h
    exact ⟨(i+1,acc),(by (refine qa_ ?_;refine Sel4.mk rfl rfl ?_ ?_<;>(repeat' first|exact True.intro|exact rfl|exact .inl rfl|exact .inr rfl|refine And.intro ?_ ?_|fail))),⟨hlt,by show acc=_;rw [hz (fun e=>h e.2.2),hacc]⟩,by show p.length-(i+1)<p.length-i;omega⟩
   ·have h2:k≤4000:=of_decide_eq_true (by assumption)
    unfold I64;omega
   ·unfold I64;omega
   ·have h:Lib.itoa k=p[i][0]:=of_decide_eq_true (by assumption)
    rw [hs0 hp0] at h
    have h1:(0:Int)≤k:=of_decide_eq_true (by assumption)
    have h2:k≤4000:=of_decide_eq_true (by assumption)
    exact ⟨(i+1,acc+k),(by (refine qa_ ?_;refine Sel4.mk rfl rfl ?_ ?_<;>(repeat' first|exact True.intro|exact rfl|exact .inl rfl|exact .inr rfl|refine And.intro ?_ ?_|fail))),⟨hlt,by show acc+k=_;rw [hnx,hnh,hno,if_pos ⟨h1,h2,h⟩,hacc]⟩,by show p.length-(i+1)<p.length-i;omega⟩
  ·rw [hs0 hp0] at hn
   have hno:qb8_ s=0:=by
    unfold qb8_
    cases h:Lib.atoiAll s with
    | ok k=>exact absurd h (hn k)
    | _=>rfl
   repeat' first|refine And.intro (a:=I64 _) ?_ ?_|refine ⟨_,⟨rfl,rfl⟩,?_⟩|fail
   ·unfold I64;omega
   ·have e:sumN p (i+1)=sumN p i:=by rw [hnx,hnh,hno];omega
    exact ⟨(i+1,acc),(by (refine qa_ ?_;refine Sel4.mk rfl rfl ?_ ?_<;>(repeat' first|exact True.intro|exact rfl|exact .inl rfl|exact .inr rfl|refine And.intro ?_ ?_|fail))),⟨hlt,by show acc=_;rw [e,hacc]⟩,by show p.length-(i+1)<p.length-i;omega⟩
 ·unfold I64;omega
 ·have h:(p[i].length:Int)=0:=of_decide_eq_true (by assumption)
  have h0:p[i]=[]:=List.length_eq_zero_iff.1 (by omega)
  have e:sumN p (i+1)=sumN p i:=by rw [hnx,h0];show _+0=_;omega
  exact ⟨(i+1,acc),(by (refine qa_ ?_;refine Sel4.mk rfl rfl ?_ ?_<;>(repeat' first|exact True.intro|exact rfl|exact .inl rfl|exact .inr rfl|refine And.intro ?_ ?_|fail))),⟨hlt,by show acc=_;rw [e,hacc]⟩,by show p.length-(i+1)<p.length-i;omega⟩
end Gv
namespace Gv
variable [Glob] [Laid]
theorem qo1_:qb_ Tryz.prog 169=true:=by kernel_rfl
def qg7_:Spec:=fun args K=>∃ a:List (List Bs),args=[.sl lsV a]∧a.flatten.length≤1000000000∧K (.sl strV a.flatten)
noncomputable def qlu_:List (Nat × Spec):=[]
noncomputable def qlt_:List (Nat × FnI):=[(220,{fn:=Tryz.f220,hooks:=[],draws:=[]})]
noncomputable def qgm_:List (Nat × qn_):=[]
theorem quz_:EnvOK ⟨Tryz.prog,tys,qlu_,qlt_,qgm_,[]⟩:=qs_ qt_ tys0 .nil (.cons (by kernel_rfl) ⟨Tryz.func220,by kernel_rfl,by kernel_rfl⟩ .nil) .nil rfl
theorem qo2_:Pure Tryz.prog 169 qg7_:=by
 refine qp_ quz_ 6 (fi:={fn:=Tryz.f169,hooks:=[10],draws:=[]}) ⟨Tryz.func169,by kernel_rfl,by kernel_rfl⟩ ?_
 rintro _ K ⟨x,rfl,hx,hK⟩
 replace hK:∀ p,p=.sl strV x.flatten→K p:=fun r h=>h ▸ hK
 obtain ⟨f,hf⟩:∃ f:Nat→List Bs,∀ i,f i=(x.take i).flatten:=⟨_,fun _=>rfl⟩
 have f0:f 0=[]:=by simp [hf]
 have fS:∀ i (h:i<x.length),f (i+1)=f i++x[i]:=fun i h=>by
  rw [hf,hf,List.take_succ_eq_append_getElem h]
  simp only [List.flatten_append,List.flatten_cons,List.flatten_nil,List.append_nil]
 have fN:∀ i,x.length≤i→f i=x.flatten:=fun i h=>by simp [hf,List.take_of_length_le h]
 have fl:∀ i,(f i).length≤1000000000:=fun i=>by
  rw [←List.take_append_drop i x] at hx
  simp only [List.flatten_append,List.length_append] at hx
  rw [hf];omega
 clear hf
 refine fun (hl:_≤MAXL)=>?_
 conv=>whnf
 refine yc_ (σ:=Nat) (fun i=>[(0,.sl lsV x),(2,.nil),(9,.sl lsV x),(10,.int .i64 x.length),(11,.int .i64 i),(3,.int .i64 ((f i).length:Nat))]) (fun _=>[]) (fun i=>i≤x.length) (fun i=>x.length-i) 0 (qf_ [] rfl rfl trivial ?_) (Nat.zero_le _) ?_
 ·simp only [f0]
  (repeat' first|exact True.intro|exact rfl|exact .inl rfl|exact .inr rfl|refine And.intro ?_ ?_|fail)
 intro i hi
 have hs:=fl i
 repeat' first|(refine fun (b:Bool) hb=>?_;cases b<;>first|exact absurd hb (by decide)|exact nfl hb|exact nfr hb|skip)|(refine fun (hl:_≤MAXL)=>?_)|refine And.intro (a:=I64 _) ?_ ?_|refine ⟨_,rfl,?_,rfl,?_⟩|fail
 ·conv=>whnf
  refine qda_ (σ:=Unit) (fun _=>[(0,.sl lsV x),(2,.nil),(6,.own 0)]) (fun _=>[.row 1 []]) (fun _=>True) ?_ ?_
  ·repeat' first|(refine fun (b:Bool) hb=>?_;cases b<;>first|exact absurd hb (by decide)|exact nfl hb|exact nfr hb|skip)|(refine fun (hl:_≤MAXL)=>?_)|refine And.intro (a:=I64 _) ?_ ?_|refine ⟨rfl,?_⟩|fail
   ·unfold I64;omega
   ·unfold I64;omega
   ·refine ⟨(),qf_ [none] rfl rfl trivial ?_,trivial⟩
    (repeat' first|exact True.intro|exact rfl|exact .inl rfl|exact .inr rfl|refine And.intro ?_ ?_|fail)
   ·refine ⟨(f i).length,by simp,by grind,by simp only [Nat.mul_one];omega,?_⟩
    refine fun _=>?_
    refine ⟨0,rfl,Nat.zero_le _,?_⟩
    refine ⟨(),qf_ [some 1] rfl rfl ⟨rfl,trivial⟩ ?_,trivial⟩
    (repeat' first|exact True.intro|exact rfl|exact .inl rfl|exact .inr rfl|refine And.intro ?_ ?_|fail)
  intro _ _
  refine fun (hl:_≤MAXL)=>?_
  conv=>whnf
  refine yc_ (σ:=Nat) (fun i=>[(0,.sl lsV x),(2,.nil),(6,.own 0),(25,.sl lsV x),(26,.int .i64 x.length),(27,.int .i64 i)]) (fun i=>[.row 1 ((f i).map strV)]) (fun i=>i≤x.length) (fun i=>x.length-i) 0 (qf_ [some 0] rfl rfl ⟨?_,trivial⟩ ?_) (Nat.zero_le _) ?_
  ·rw [f0];exact rfl
  ·(repeat' first|exact True.intro|exact rfl|exact .inl rfl|exact .inr rfl|refine And.intro ?_ ?_|fail)
  intro i hi
  have hs:=fl i
  repeat' first|refine ⟨_,_,_,LeL.refl _,?_⟩|(refine fun (b:Bool) hb=>?_;cases b<;>first|exact absurd hb (by decide)|exact nfl hb|exact nfr hb|skip)|refine And.intro (a:=I64 _) ?_ ?_|refine And.intro (a:=_≤140737488355328) ?_ ?_|refine ⟨_,rfl,?_,rfl,?_⟩|refine ⟨(fun _=>rfl),?_⟩|fail
  ·refine hK _ ?_
   rw [fN i (by grind)]
  ·grind
  ·have:=fl (i+1)
   rw [fS i (by grind)] at this
   simp only [List.length_append,List.length_map,lsV,qey_] at this ⊢
   omega
  ·unfold I64;grind
  ·refine ⟨i+1,?_,?_,?_⟩
   ·refine qf_ [some 1] rfl rfl ⟨?_,trivial⟩ ?_
    ·rw [fS i (by grind),List.map_append]
     exact rfl
    ·(repeat' first|exact True.intro|exact rfl|exact .inl rfl|exact .inr rfl|refine And.intro ?_ ?_|fail)
   ·grind
   ·grind
 ·grind
 ·unfold I64;grind
 ·unfold I64;grind
 ·refine ⟨i+1,?_,?_,?_⟩
  ·refine qf_ [] rfl rfl trivial ?_
   rw [fS i (by grind)]
   simp only [List.length_append]
   (repeat' first|exact True.intro|exact rfl|exact .inl rfl|exact .inr rfl|refine And.intro ?_ ?_|fail)
  ·grind
  ·grind
end Gv
namespace Gv
variable [Glob] [Laid] [Errs] [Nums]
theorem q5g_:qb_ Tryz.prog 130=true:=by kernel_rfl
def qzx_:Spec:=fun args K=>∃ (h:Int) (c:Cmd) (p:List (List Bs)),args=[.int .i64 h,cmdV c,.sl lsV p]∧((h=4→qz_ c=0)∧p.length≤1000∧p.flatten.length≤900000000∧∀ l∈p,∀ s∈l,s.length≤900000000)∧K (.sl strV (wc_ h c p))
noncomputable def qzz_:List (Nat × Spec):=[(167,qss_),(168,q8y_),(150,qhk_),(91,qed_),(169,qg7_)]
noncomputable def qzy_:List (Nat × FnI):=[]
noncomputable def qpu_:List (Nat × qn_):=[]
theorem q95_:EnvOK ⟨Tryz.prog,tys,qzz_,qzy_,qpu_,[]⟩:=qs_ qt_ tys0 (.cons q0p_ q0q_ (.cons zbs_ zbt_ (.cons qe8_ qe9_ (.cons qfb_ qfc_ (.cons qo1_ qo2_ .nil))))) .nil .nil rfl
theorem q5h_:Pure Tryz.prog 130 qzx_:=by
 refine qp_ q95_ 6 (fi:={fn:=Tryz.f130,hooks:=[],draws:=[]}) ⟨Tryz.func130,by kernel_rfl,by kernel_rfl⟩ ?_
 rintro _ K ⟨h,c,p,rfl,⟨hc,hp1,hp2,hp3⟩,hK⟩
 replace hK:∀ r,r=.sl strV (wc_ h c p)→K r:=fun r h=>h ▸ hK
 have hb:=qau_ p p.length
 unfold wc_ at hK
 repeat' first|(refine fun (b:Bool) hb=>?_;cases b<;>first|exact absurd hb (by decide)|exact nfl hb|exact nfr hb|skip)|fail
 ·have h2:¬ h=2:=of_decide_eq_false (by assumption)
  have h3:¬ h=3:=of_decide_eq_false (by assumption)
  rw [if_neg h2,if_neg h3] at hK
  skip
  refine ⟨p,rfl,by omega,?_⟩
  repeat' first|(refine fun (b:Bool) hb=>?_;cases b<;>first|exact absurd hb (by decide)|exact nfl hb|exact nfr hb|skip)|fail
  ·have h4:¬ h=4:=of_decide_eq_false (by assumption)
   rw [if_neg h4] at hK
   exact hK _ rfl
  ·have h4:h=4:=of_decide_eq_true (by assumption)
   rw [if_pos h4] at hK
   refine ⟨c,p.flatten,rfl,⟨hc h4,hp2,fun s hs=>?_⟩,?_⟩
   ·obtain ⟨l,hl,hsl⟩:=List.mem_flatten.1 hs
    exact hp3 l hl s hsl
   skip
   exact hK _ rfl
 ·have h2:¬ h=2:=of_decide_eq_false (by assumption)
  have h3:h=3:=of_decide_eq_true (by assumption)
  rw [if_neg h2,if_pos h3] at hK
  skip
  refine ⟨p,rfl,⟨hp1,fun l hl s hs=>by have:=hp3 l hl s hs;omega⟩,?_⟩
  refine ⟨_,rfl,⟨by omega,by omega⟩,?_⟩
  skip
  refine ⟨Bs,strV,[Lib.itoa (sumN p p.length)],LeL.refl _,?_⟩
  exact hK _ rfl
 ·have h2:h=2:=of_decide_eq_true (by assumption)
  rw [if_pos h2] at hK
  skip
  refine ⟨p,rfl,⟨by omega,hp1⟩,?_⟩
  skip
  exact hK _ rfl
end Gv
namespace Gv
variable [Glob] [Laid] [Nums] [Errs]
theorem q5u_:qb_ Tryz.prog 67=true:=by kernel_rfl
def zag_:qn_:=fun args rows K=>∃ (n:Gp.Node) (f:List FileS) (ins:List Bs),args=[qh_ n,.sl qq_ f,.own 0]∧rows=[.row 1 (ins.map blV)]∧(q5_ n=0∧n.ins.length=ins.length∧ins.flatten.length≤500000000∧∀ x∈f,x.b.length≤4000)∧(∀ ex,za_ n f ins=[]→K .nil (.row 1 (ins.map blV)::ex))∧(∀ ex,K (.sl blV (za_ n f ins)) (.row 1 (ins.map blV)::ex))∧(∀ b,K (.own 2) [.row 1 (ins.map blV),b,.row 1 ((za_ n f ins).map blV)])∧(∀ b c,K (.own 3) [.row 1 (ins.map blV),b,c,.row 1 ((za_ n f ins).map blV)])
noncomputable def q0o_:List (Nat × Spec):=[(77,qrx_),(90,qji_),(93,put_S),(129,qd1_),(91,qed_),(130,qzx_)]
noncomputable def q0n_:List (Nat × FnI):=[]
noncomputable def qp3_:List (Nat × qn_):=[]
theorem zaf_:EnvOK ⟨Tryz.prog,tys,q0o_,q0n_,qp3_,[]⟩:=qs_ qt_ tys0 (.cons qxs_ qxt_ (.cons qmf_ qmg_ (.cons q1w_ q1x_ (.cons qkb_ qkc_ (.cons qfb_ qfc_ (.cons q5g_ q5h_ .nil)))))) .nil .nil rfl
theorem qvy_:q1_ Tryz.prog 67 zag_:=by
 refine xm_ zaf_ 6 q5u_ (fi:={fn:=Tryz.f67,hooks:=[],draws:=[(5,[0,1,3,7,0,16,63,127]),(7,[0,1,0,4,12,28,63,127,255,511])]}) ⟨Tryz.func67,by kernel_rfl,by kernel_rfl⟩ ?_
 rintro args rows K ⟨n,f,ins,rfl,rfl,⟨hn,hil,hfl,hf⟩,hK1,hK2,hK3,hK4⟩
 have hgi:∀ {j:Nat} (h:j<ins.length),(ins.map blV)[j]?=some (blV ins[j]):=fun h=>by rw [List.getElem?_map,List.getElem?_eq_getElem h];rfl
 have hmk:za_ n f ins=za_ n f ins:=rfl
 conv at hmk=>(rhs;unfold za_)
 rw [hmk] at hK1 hK2 hK3 hK4
 clear hmk
 have hshp:=z3_ hn
 have hfa:=qc2_ hf n.file
 have hpf:=xn_ (yu_ f n.file)
 have hb0:=w4_ ins 0
 have hg0:∀ h:0<ins.length,ins.getD 0 []=ins[0]:=fun h=>by rw [List.getD_eq_getElem?_getD,List.getElem?_eq_getElem h];rfl
 have hp1:=xn_ (ins.getD 0 [])
 have hl1:=xl_ (ins.getD 0 [])
 have hel:=vt_ (ins.getD 0 [])
 repeat' first|exact True.intro|(refine fun (b:Bool) hb=>?_;cases b<;>first|exact absurd hb (by decide)|exact nfl hb|exact nfr hb|skip)|(refine fun (hl:_≤MAXL)=>?_)|refine ⟨_,⟨rfl,rfl⟩,?_⟩|refine And.intro (a:=qj_ _ _ _ _ _ _ _ _) ?_ ?_|fail
 ·have k1:¬ n.kind=1:=of_decide_eq_false (by assumption)
  have k2:¬ n.kind=2:=of_decide_eq_false (by assumption)
  have k3:¬ n.kind=3:=of_decide_eq_false (by assumption)
  have k4:¬ n.kind=4:=of_decide_eq_false (by assumption)
  rw [if_neg k1,if_neg k2,if_neg k3,if_neg k4] at hK1
  conv=>whnf
  exact hK1 _ rfl
 ·have k4:n.kind=4:=of_decide_eq_true (by assumption)
  rw [if_neg (by omega),if_neg (by omega),if_neg (by omega),if_pos k4] at hK4
  conv=>whnf
  refine qg_ [3,43,44] (σ:=Nat × List (List Bs)) (fun s=>[(45,.int .i64 s.1),(7,.own 2)]) (fun s=>[.row 1 (ins.map blV),.box (qh_ n).cells,.row 1 (s.2.map lsV)]) (fun s=>s.1≤ins.length∧s.2=(ins.take s.1).map qc_) (fun s=>ins.length-s.1) (0,[]) ?_
  conv=>whnf
  refine ⟨(by (refine qf_ [some 0,some 1,none] rfl rfl ?_ ?_<;>(repeat' first|exact True.intro|exact rfl|exact .inl rfl|exact .inr rfl|refine And.intro ?_ ?_|fail))),⟨Nat.zero_le _,by simp⟩,fun s hs=>?_⟩
  obtain ⟨i,ls⟩:=s
  obtain ⟨hi,hls⟩:=hs
  dsimp only at hi hls
  repeat' first|refine ⟨_,_,_,LeL.refl _,?_⟩|(refine fun (b:Bool) hb=>?_;cases b<;>first|exact absurd hb (by decide)|exact nfl hb|exact nfr hb|skip)|refine ⟨rfl,?_⟩|fail
  ·have hge:¬ (i:Int)<(ins.length:Int) := by
    have h:=of_decide_eq_false (by assumption:decide ((i:Int)<((ins.map blV).length:Int))=false)
    rwa [List.length_map] at h
   rw [List.take_of_length_le (by omega)] at hls
   subst hls
   have hpf2:=qej_ ins
   have hpl:=qdg_ (l:=(ins.map qc_).flatten) (n:=600000000) (by omega)
   have hjc:z2_ n.how n.c=0:=by
    rcases hshp with h|h|h|h|h
    ·omega
    ·omega
    ·omega
    ·exact h.2.2.2
    ·omega
   have hjp:=qc9_ (yf_ hjc).1 (ins.map qc_) (by rw [List.length_map];omega) (by omega)
   conv=>whnf
   refine ⟨n.how,n.c,ins.map qc_,rfl,⟨(yf_ hjc).1,by rw [List.length_map];omega,by omega,fun l hl s hsl=>?_⟩,?_⟩
   ·have:=q8m_ (List.mem_flatten.2 ⟨l,hl,hsl⟩)
    omega
   refine ⟨wc_ n.how n.c (ins.map qc_),rfl,by omega,?_⟩
   conv=>whnf
   exact hK4 _ _
  have hlt:i<ins.length:=by
   have h:=of_decide_eq_true (by assumption:decide ((i:Int)<((ins.map blV).length:Int))=true)
   rw [List.length_map] at h
   omega
  refine ⟨i,rfl,by rw [List.length_map];exact hlt,?_⟩
  conv=>whnf
  refine ⟨_,hgi hlt,?_⟩
  repeat' first|refine And.intro (a:=I64 _) ?_ ?_|refine And.intro (a:=_≤140737488355328) ?_ ?_|refine ⟨_,rfl,?_,rfl,?_⟩|fail
  ·have:=qcz_ (List.getElem_mem hlt)
   show ins[i].length≤1000000000
   omega
  ·show ((ls.map lsV).length+1)*24≤140737488355328
   rw [List.length_map,hls,List.length_map,List.length_take]
   omega
  ·unfold I64;(try dsimp only);omega
  refine ⟨(i+1,ls++[qc_ ins[i]]),?_,⟨hlt,?_⟩,by show ins.length-(i+1)<ins.length-i;omega⟩
  ·show Wk _ _ _ _ [.row 1 (ins.map blV),.box (qh_ n).cells,.row 1 ((ls++[qc_ ins[i]]).map lsV)]
   rw [List.map_append]
   exact (by (refine qf_ [some 0,some 1,some 4] rfl rfl ?_ ?_<;>(repeat' first|exact True.intro|exact rfl|exact .inl rfl|exact .inr rfl|refine And.intro ?_ ?_|fail)))
  ·show ls++[qc_ ins[i]]=(ins.take (i+1)).map qc_
   rw [List.take_succ_eq_append_getElem hlt,List.map_append,hls]
   rfl
 ·have k3:n.kind=3:=of_decide_eq_true (by assumption)
  have h0:0<ins.length:=by omega
  have hc:qz_ n.c=0:=by
   rcases hshp with h|h|h|h|h
   ·omega
   ·omega
   ·exact h.2.2
   ·omega
   ·omega
  rw [if_neg (by omega),if_neg (by omega),if_pos k3] at hK2
  rw [hg0 h0] at hb0 hp1 hl1 hel hK2
  have hlp:=yb_ hc (qc_ ins[0]) (by omega)
  conv=>whnf
  apply Exists.intro
  apply And.intro
  ·refine ⟨rfl,0,rfl,by rw [List.length_map];exact h0,?_⟩
   exact ⟨rfl,rfl⟩
  conv=>whnf
  refine ⟨trivial,?_⟩
  conv=>whnf
  apply Exists.intro
  apply And.intro
  ·conv=>whnf
   refine ⟨_,hgi h0,?_⟩
   repeat' first|refine ⟨rfl,?_⟩|fail
   exact rfl
  conv=>whnf
  refine ⟨trivial,?_⟩
  conv=>whnf
  apply Exists.intro
  apply And.intro
  ·refine ⟨ins[0],rfl,by omega,?_⟩
   exact ⟨rfl,rfl⟩
  skip
  apply Exists.intro
  apply And.intro
  ·refine ⟨n.c,qc_ ins[0],rfl,⟨hc,by omega,fun s hs=>by have:=hel s hs;omega⟩,?_⟩
   exact ⟨rfl,rfl⟩
  skip
  apply Exists.intro
  apply And.intro
  ·refine ⟨zq_ n.c (qc_ ins[0]),rfl,by omega,?_⟩
   exact ⟨rfl,rfl⟩
  skip
  refine ⟨_,⟨Bs,blV,[put (zq_ n.c (qc_ ins[0]))],LeL.refl _,rfl,rfl⟩,?_⟩
  repeat' first|refine ⟨_,⟨rfl,rfl⟩,?_⟩|fail
  conv=>whnf
  exact hK2 _
 ·have k2:n.kind=2:=of_decide_eq_true (by assumption)
  have h0:0<ins.length:=by omega
  obtain ⟨w,hw⟩:∃ w:Nat,n.wide=w:=⟨n.wide.toNat,by omega⟩
  rw [if_neg (by omega),if_pos k2] at hK2
  rw [hg0 h0] at hb0 hp1 hl1 hel hK2
  rw [hw,Int.toNat_natCast] at hK2
  conv=>whnf
  apply Exists.intro
  apply And.intro
  ·refine ⟨rfl,0,rfl,by rw [List.length_map];exact h0,?_⟩
   exact ⟨rfl,rfl⟩
  conv=>whnf
  refine ⟨trivial,?_⟩
  conv=>whnf
  apply Exists.intro
  apply And.intro
  ·conv=>whnf
   refine ⟨_,hgi h0,?_⟩
   repeat' first|refine ⟨rfl,?_⟩|fail
   exact rfl
  conv=>whnf
  refine ⟨trivial,?_⟩
  conv=>whnf
  apply Exists.intro
  apply And.intro
  ·refine ⟨ins[0],rfl,by omega,?_⟩
   exact ⟨rfl,rfl⟩
  repeat' first|exact True.intro|refine ⟨_,⟨rfl,rfl⟩,?_⟩|refine And.intro (a:=qj_ _ _ _ _ _ _ _ _) ?_ ?_|fail
  apply Exists.intro
  apply And.intro
  ·refine ⟨qc_ ins[0],w,by rw [hw],⟨by omega,by omega,by omega⟩,?_⟩
   exact ⟨rfl,rfl⟩
  repeat' first|refine ⟨_,⟨rfl,rfl⟩,?_⟩|fail
  conv=>whnf
  exact hK2 _
 ·have k1:n.kind=1:=of_decide_eq_true (by assumption)
  rw [if_pos k1] at hK3
  conv=>whnf
  refine ⟨f,n.file,rfl,fun x hx=>by have:=hf x hx;omega,?_⟩
  refine ⟨yu_ f n.file,rfl,by omega,?_⟩
  refine ⟨qc_ (yu_ f n.file),rfl,by omega,?_⟩
  skip
  conv=>whnf
  exact hK3 _
end Gv
namespace Gv
variable [Glob] [Laid] [Nums] [Errs]
def zac_:qn_:=fun args rows K=>∃ (n:Gp.Node) (f:List FileS) (ins:List Bs),args=[qh_ n,.sl qq_ f,.own 0]∧rows=[.row 1 (ins.map blV)]∧(q5_ n=0∧n.ins.length=ins.length∧ins.flatten.length≤500000000∧∀ x∈f,x.b.length≤4000)∧∀ ex,K (.sl blV (za_ n f ins)) (.row 1 (ins.map blV)::ex)
theorem qvw_:q1_ Tryz.prog 67 zac_:=by
 intro w0 m0 args rows K R m q w us C hv hT
 obtain ⟨n,f,ins,rfl,rfl,hc,hK⟩:=hT
 refine q6j_ qvy_ w0 m0 _ _ K R m q w us C hv (.inr ⟨n,f,ins,rfl,rfl,hc,fun ex he=>?_,fun ex=>?_,fun b=>?_,fun b c=>?_⟩)
 ·refine ⟨Bs,blV,?_⟩
  have:=hK ex
  rw [he] at this
  exact this
 ·exact hK ex
 ·refine ⟨Bs,blV,za_ n f ins,LeL.refl _,?_⟩
  exact hK _
 ·refine ⟨Bs,blV,za_ n f ins,LeL.refl _,?_⟩
  exact hK _
end Gv
namespace Gv
variable [Glob] [Laid] [Nums] [Errs]
def q0m_:qn_:=fun args rows K=>∃ (n:Gp.Node) (f:List FileS) (ins:List Bs),args=[qh_ n,.sl qq_ f,.own 0]∧rows=[.row 1 (ins.map blV)]∧(q5_ n=0∧n.ins.length=ins.length∧ins.flatten.length≤500000000∧∀ x∈f,x.b.length≤4000)∧K (.sl blV (za_ n f ins)) [.row 1 (ins.map blV)]
theorem qvx_:q1_ Tryz.prog 67 q0m_:=by
 intro w0 m0 args rows K R m q w us C hv hT
 obtain ⟨n,f,ins,rfl,rfl,hc,hK⟩:=hT
 exact q6i_ qvw_ w0 m0 _ _ K R m q w us C hv ⟨n,f,ins,rfl,rfl,hc,fun ex=>⟨[.row 1 (ins.map blV)],ex,rfl,Nat.le_refl _,fun y hy=>by simp at hy;subst hy;rfl,rfl,hK⟩⟩
end Gv
namespace Gv
variable [Glob] [Laid] [Nums] [Errs]
theorem q4c_ (a:List Bs):catL a []=a:=by cases a<;>rfl
theorem qkx_:∀ (a b:List Bs) (k:Nat) (hk:k<a.length) (hb:k<b.length),(catL a (b.take k)).set k (a[k]++b[k])=catL a (b.take (k+1))
 | x::r,y::s,0,_,_=>by simp [catL,q4c_]
 | x::r,y::s,k+1,hk,hb=>by
  have:=qkx_ r s k (by simpa using hk) (by simpa using hb)
  simp only [List.take_succ_cons,catL,List.set_cons_succ,List.getElem_cons_succ]
  rw [this]
theorem qi8_:qb_ Tryz.prog 163=true:=by kernel_rfl
def qpi_:qn_:=fun args rows K=>∃ (m:MachS) (i:Nat) (els:List V),args=[.ptr 0 0 0,.int .i64 i]∧FocOK m i els∧(pr m i).got.flatten.length≤500000000∧rows=focR m i els∧∀ ex,K (.tup []) (focR (z5_ m i) i els++ex)
noncomputable def qzh_:List (Nat × Spec):=[(214,y5_)]
noncomputable def qzg_:List (Nat × FnI):=[]
noncomputable def qpj_:List (Nat × qn_):=[(67,q0m_)]
theorem q9w_:EnvOK ⟨Tryz.prog,tys,qzh_,qzg_,qpj_,[]⟩:=qs_ qt_ tys0 (.cons yz_ y0_ .nil) .nil (.cons qvx_ .nil) rfl
theorem qhh_:q1_ Tryz.prog 163 qpi_:=by
 refine xm_ q9w_ 6 qi8_ (fi:={fn:=Tryz.f163,hooks:=[1,7],draws:=[(0,[0,1,3,7,0,31,0,64,192,448,960,0,4032,8128,0,16447,65535]),(2,[0,0,2,6,14,0,32,96,224,511,1023,0]),(5,[0,1,3,7,0,0,32,96,224,0,992,2016,0,8160,16352,32767,65535])]}) ⟨Tryz.func163,by kernel_rfl,by kernel_rfl⟩ ?_
 rintro args rows K ⟨m,i,els,rfl,h,hsz,rfl,hK⟩
 have hei:(els.set i (q6_ (pr m i)))[i]?=some (q6_ (pr m i)):=List.getElem?_set_self (by rw [h.nl];exact h.lt)
 have hel:(els.set i (q6_ (pr m i))).length=m.g.length:=by rw [List.length_set,h.nl]
 have hpe:=h.pe
 have hgf:=gf_of h.g
 have hnd:ndG m.g i=m.g[i]'(h.lt):=xb_ h.lt
 unfold focR
 conv=>whnf
 refine ql_ [0] (σ:=Unit) (fun _=>[(4,.ptr 2 i 0),(5,.ptr 5 0 0)]) (fun _=>[.box [.sl qh_ m.g,.sl qq_ m.f,.own 1,.own 2,.sl qd_ m.sunk],.row 4 (m.pipes.map qk_),.rowq 5 (els.set i (q6_ (pr m i))),.row 1 ((pr m i).got.map blV),.row 1 ((pr m i).out.map blV),.box (qh_ (ndG m.g i)).cells]) (fun _=>True) ?_
 conv=>whnf
 refine ⟨?_,fun _ _=>?_⟩
 ·conv=>whnf
  repeat' first|exact True.intro|refine ⟨_,⟨rfl,rfl⟩,?_⟩|refine And.intro (a:=qj_ _ _ _ _ _ _ _ _) ?_ ?_|fail
  conv=>whnf
  apply Exists.intro
  apply And.intro
  ·repeat' first|refine ⟨_,rfl,?_,rfl,?_⟩|refine ⟨rfl,?_⟩|fail
   ·rw [hel];exact h.lt
   ·exact rfl
  conv=>whnf
  refine ⟨trivial,?_⟩
  conv=>whnf
  repeat' first|exact True.intro|refine ⟨_,⟨rfl,rfl⟩,?_⟩|refine ⟨_,_,⟨rfl,rfl⟩,?_⟩|refine And.intro (a:=qx_ _ _ _ _ _ _) ?_ ?_|refine And.intro (a:=qj_ _ _ _ _ _ _ _ _) ?_ ?_|refine ⟨⟨rfl,rfl⟩,?_⟩|refine ⟨_,⟨_,rfl,?_,rfl,rfl,rfl⟩,?_⟩|fail
  conv=>whnf
  skip
  ·exact h.lt
  ·conv=>whnf
   refine ⟨?_,?_⟩
   ·conv=>whnf
    refine ⟨rfl,i,rfl,by rw [hel];exact h.lt,?_⟩
    exact ⟨rfl,rfl⟩
   ·conv=>whnf
    repeat' first|exact True.intro|refine ⟨⟨rfl,rfl⟩,?_⟩|fail
    all_goals done
  conv=>whnf
  rw [hnd]
  exact ⟨(),(by (refine qf_ [some 0,some 1,some 2,some 3,some 4,some 5] rfl rfl ?_ ?_<;>(repeat' (first|exact qw_ hpe rfl rfl|exact True.intro|exact rfl|exact Or.inl rfl|exact Or.inr rfl|refine And.intro ?_ ?_|fail)))),trivial⟩
 have hset:∀ x y:V,(els.set i x).set i y=els.set i y:=fun x y=>by rw [List.set_set]
 conv=>whnf
 refine ⟨_,hei,?_⟩
 conv=>whnf
 refine ql_ [4] (σ:=Unit) (fun _=>[]) (fun _=>[.box [.sl qh_ m.g,.sl qq_ m.f,.own 1,.own 2,.sl qd_ m.sunk],.row 4 (m.pipes.map qk_),.rowq 5 (els.set i (q6_ ⟨(pr m i).got,(pr m i).pos,(pr m i).out,true,(pr m i).over⟩)),.row 1 ((pr m i).got.map blV),.row 1 ((catL (pr m i).out (za_ (ndG m.g i) m.f (pr m i).got)).map blV)]) (fun _=>True) ?_
 conv=>whnf
 refine ⟨?_,fun _ _=>?_⟩
 ·conv=>whnf
  repeat' first|exact True.intro|refine ⟨_,⟨rfl,rfl⟩,?_⟩|refine And.intro (a:=qj_ _ _ _ _ _ _ _ _) ?_ ?_|fail
  conv=>whnf
  apply Exists.intro
  apply And.intro
  ·conv=>whnf
   refine ⟨_,List.getElem?_set_self (by rw [hel];exact h.lt),?_⟩
   repeat' first|refine ⟨rfl,?_⟩|fail
   exact rfl
  conv=>whnf
  refine ⟨trivial,?_⟩
  conv=>whnf
  have hcn:q5_ (ndG m.g i)=0:=hgf.node i h.lt
  have hil:(ndG m.g i).ins.length=(pr m i).got.length:=h.got.symm
  have hfb:∀ x∈m.f,x.b.length≤4000:=fun x hx=>((xc_ h.f).2 x hx).2
  have hml:=qfe_ hcn hil hfb hsz
  have hmo:=qdc_ (f:=m.f) (ins:=(pr m i).got) hcn
  apply Exists.intro
  apply Exists.intro
  apply And.intro
  ·refine ⟨ndG m.g i,m.f,(pr m i).got,rfl,rfl,⟨hcn,hil,hsz,hfb⟩,?_⟩
   repeat' first|refine ⟨rfl,?_⟩|fail
   exact rfl
  conv=>whnf
  repeat' first|exact True.intro|refine ⟨_,⟨rfl,rfl⟩,?_⟩|refine ⟨_,(fun _=>⟨rfl,rfl⟩),?_⟩|refine And.intro (a:=qx_ _ _ _ _ _ _) ?_ ?_|fail
  conv=>whnf
  refine qg_ [4,35,36] (σ:=Nat) (fun k=>[(37,.int .i64 k)]) (fun k=>[.box [.sl qh_ m.g,.sl qq_ m.f,.own 1,.own 2,.sl qd_ m.sunk],.row 4 (m.pipes.map qk_),.rowq 5 (els.set i (q6_ ⟨(pr m i).got,(pr m i).pos,(pr m i).out,true,(pr m i).over⟩)),.row 1 ((pr m i).got.map blV),.row 1 ((catL (pr m i).out ((za_ (ndG m.g i) m.f (pr m i).got).take k)).map blV)]) (fun k=>k≤(za_ (ndG m.g i) m.f (pr m i).got).length) (fun k=>(za_ (ndG m.g i) m.f (pr m i).got).length-k) 0 ?_
  conv=>whnf
  refine ⟨?_,Nat.zero_le _,fun k hk=>?_⟩
  ·have hc0:catL (pr m i).out ((za_ (ndG m.g i) m.f (pr m i).got).take 0)=(pr m i).out:=by rw [List.take_zero];cases (pr m i).out<;>rfl
   rw [hset,hc0]
   refine qf_ [some 0,some 1,some 2,some 3,some 4] rfl rfl ?_ ?_<;>(repeat' (first|exact qaw_ hpe ⟨rfl,rfl,rfl,Or.inr rfl,rfl,trivial⟩|exact True.intro|exact rfl|exact Or.inl rfl|exact Or.inr rfl|refine And.intro ?_ ?_|fail))
   all_goals done
  repeat' first|(refine fun (b:Bool) hb=>?_;cases b<;>first|exact absurd hb (by decide)|exact nfl hb|exact nfr hb|skip)|refine ⟨_,⟨rfl,rfl⟩,?_⟩|refine ⟨_,rfl,?_,rfl,?_⟩|fail
  ·have hkl:k=(za_ (ndG m.g i) m.f (pr m i).got).length := by
    have h:=of_decide_eq_false (by assumption:decide ((k:Int)<((za_ (ndG m.g i) m.f (pr m i).got).length:Int))=false)
    omega
   subst hkl
   refine ⟨(),?_,trivial⟩
   rw [List.take_length]
   exact (by (refine qf_ [some 0,some 1,some 2,some 3,some 4] rfl rfl ?_ ?_<;>(repeat' (first|exact qw_ hpe rfl rfl|exact True.intro|exact rfl|exact Or.inl rfl|exact Or.inr rfl|refine And.intro ?_ ?_|fail))))
  ·have h:=of_decide_eq_true (by assumption:decide ((k:Int)<((za_ (ndG m.g i) m.f (pr m i).got).length:Int))=true)
   exact (by omega:k<(za_ (ndG m.g i) m.f (pr m i).got).length)
  have hk2:k<(za_ (ndG m.g i) m.f (pr m i).got).length:=by
   have h:=of_decide_eq_true (by assumption:decide ((k:Int)<((za_ (ndG m.g i) m.f (pr m i).got).length:Int))=true)
   omega
  have hko:k<(pr m i).out.length:=by
   have h1:=h.out
   unfold nO at h1
   omega
  have hcl:k<(catL (pr m i).out ((za_ (ndG m.g i) m.f (pr m i).got).take k)).length:=by rw [qai_];exact hko
  have hgc:((catL (pr m i).out ((za_ (ndG m.g i) m.f (pr m i).got).take k)).map blV)[k]?=some (blV (pr m i).out[k]):=by
   rw [List.getElem?_map,List.getElem?_eq_getElem hcl]
   have h1:=qn9_ (pr m i).out ((za_ (ndG m.g i) m.f (pr m i).got).take k) k hko
   rw [List.getD_eq_getElem?_getD,List.getElem?_eq_getElem hcl,List.getD_eq_getElem?_getD,List.getElem?_eq_getElem hko,List.getD_eq_getElem?_getD,List.getElem?_eq_none (by rw [List.length_take];omega)] at h1
   simp only [Option.getD_some,Option.getD_none,List.append_nil] at h1
   rw [h1];rfl
  conv=>whnf
  apply Exists.intro
  apply And.intro
  ·conv=>whnf
   refine ⟨_,List.getElem?_set_self (by rw [h.nl];exact h.lt),?_⟩
   repeat' first|refine ⟨rfl,?_⟩|fail
   exact rfl
  conv=>whnf
  refine ⟨trivial,?_⟩
  conv=>whnf
  repeat' first|refine ⟨_,⟨rfl,rfl⟩,?_⟩|fail
  conv=>whnf
  apply Exists.intro
  apply And.intro
  ·conv=>whnf
   refine ⟨_,List.getElem?_set_self (by rw [h.nl];exact h.lt),?_⟩
   repeat' first|refine ⟨rfl,?_⟩|fail
   exact rfl
  conv=>whnf
  refine ⟨trivial,?_⟩
  conv=>whnf
  repeat' first|refine ⟨_,⟨rfl,rfl⟩,?_⟩|fail
  conv=>whnf
  apply Exists.intro
  apply And.intro
  ·refine ⟨rfl,k,rfl,by rw [List.length_map];exact hcl,?_⟩
   exact ⟨rfl,rfl⟩
  conv=>whnf
  refine ⟨trivial,?_⟩
  conv=>whnf
  apply Exists.intro
  apply And.intro
  ·conv=>whnf
   refine ⟨_,hgc,?_⟩
   repeat' first|refine ⟨rfl,?_⟩|fail
   exact rfl
  conv=>whnf
  refine ⟨trivial,?_⟩
  conv=>whnf
  repeat' first|refine ⟨_,⟨rfl,rfl⟩,?_⟩|fail
  conv=>whnf
  refine ⟨_,⟨Bs,blV,[(pr m i).out[k],(za_ (ndG m.g i) m.f (pr m i).got)[k]],LeL.refl _,rfl,rfl⟩,?_⟩
  skip
  have hol:((pr m i).out[k]).length≤400000000:=h.big _ (List.mem_append_right _ (List.getElem_mem hko))
  have hnl:=qcz_ (List.getElem_mem hk2)
  apply Exists.intro
  apply And.intro
  ·refine ⟨[(pr m i).out[k],(za_ (ndG m.g i) m.f (pr m i).got)[k]],rfl,?_,?_⟩
   ·simp only [List.flatten_cons,List.flatten_nil,List.append_nil,List.length_append]
    omega
   ·exact ⟨rfl,rfl⟩
  conv=>whnf
  apply Exists.intro
  apply And.intro
  ·refine ⟨rfl,k,rfl,by rw [List.length_map];exact hcl,?_⟩
   exact ⟨rfl,rfl⟩
  conv=>whnf
  refine ⟨trivial,?_⟩
  conv=>whnf
  apply Exists.intro
  apply Exists.intro
  apply And.intro
  ·conv=>whnf
   refine ⟨by rw [List.length_map];exact hcl,?_⟩
   exact ⟨rfl,rfl⟩
  conv=>whnf
  repeat' first|exact True.intro|refine And.intro (a:=I64 _) ?_ ?_|refine And.intro (a:=qx_ _ _ _ _ _ _) ?_ ?_|fail
  conv=>whnf
  skip
  ·have hM:=(qai_ (pr m i).out ((za_ (ndG m.g i) m.f (pr m i).got).take k))
   have ho:=(xh_ hcn).2
   omega
  refine ⟨k+1,?_,by omega,by omega⟩
  have hst:=qkx_ (pr m i).out (za_ (ndG m.g i) m.f (pr m i).got) k hko hk2
  have he:[(pr m i).out[k],(za_ (ndG m.g i) m.f (pr m i).got)[k]].flatten=(pr m i).out[k]++(za_ (ndG m.g i) m.f (pr m i).got)[k]:=by simp
  rw [←hst,List.map_set,←he]
  exact (by (refine qf_ [some 0,some 1,some 2,some 3,some 4] rfl rfl ?_ ?_<;>(repeat' (first|exact qw_ hpe rfl rfl|exact True.intro|exact rfl|exact Or.inl rfl|exact Or.inr rfl|refine And.intro ?_ ?_|fail))))
 have hei2:(els.set i (q6_ ⟨(pr m i).got,(pr m i).pos,(pr m i).out,true,(pr m i).over⟩))[i]?=some (q6_ ⟨(pr m i).got,(pr m i).pos,(pr m i).out,true,(pr m i).over⟩):=List.getElem?_set_self (by rw [h.nl];exact h.lt)
 conv=>whnf
 refine ⟨_,hei2,?_⟩
 conv=>whnf
 repeat' first|(refine fun (hl:_≤MAXL)=>?_)|fail
 conv=>whnf
 refine qg_ [4,63] (σ:=Nat) (fun k=>[(64,.int .i64 k)]) (fun k=>[.box [.sl qh_ m.g,.sl qq_ m.f,.own 1,.own 2,.sl qd_ m.sunk],.row 4 (m.pipes.map qk_),.rowq 5 (els.set i (q6_ ⟨(pr m i).got,(pr m i).pos,(pr m i).out,true,(pr m i).over⟩)),.row 1 ((List.replicate k []++(pr m i).got.drop k).map blV),.row 1 ((catL (pr m i).out (za_ (ndG m.g i) m.f (pr m i).got)).map blV)]) (fun k=>k≤(pr m i).got.length) (fun k=>(pr m i).got.length-k) 0 ?_
 conv=>whnf
 refine ⟨(by (refine qf_ [some 0,some 1,some 2,some 3,some 4] rfl rfl ?_ ?_<;>(repeat' (first|exact qw_ hpe rfl rfl|exact True.intro|exact rfl|exact Or.inl rfl|exact Or.inr rfl|refine And.intro ?_ ?_|fail)))),Nat.zero_le _,fun k hk=>?_⟩
 have hgl:(List.replicate k ([]:Bs)++(pr m i).got.drop k).length=(pr m i).got.length:=by simp;omega
 repeat' first|(refine fun (b:Bool) hb=>?_;cases b<;>first|exact absurd hb (by decide)|exact nfl hb|exact nfr hb|skip)|fail
 ·have hkl:k=(pr m i).got.length := by
   have h:=of_decide_eq_false (by assumption:decide ((k:Int)<(((pr m i).got.map blV).length:Int))=false)
   rw [List.length_map] at h
   omega
  subst hkl
  conv=>whnf
  have hpi:pr (z5_ m i) i=w3_ (ndG m.g i) m.f (pr m i):=by
   unfold z5_
   rw [xe_ (by rw [h.np];exact h.lt),if_pos rfl]
  have hrep:(pr m i).got.map (fun _=>([]:Bs))=List.replicate (pr m i).got.length []++(pr m i).got.drop (pr m i).got.length:=by
   rw [List.drop_length,List.append_nil,List.map_const']
  have e:focR (z5_ m i) i els=[.box [.sl qh_ m.g,.sl qq_ m.f,.own 1,.own 2,.sl qd_ m.sunk],.row 4 (m.pipes.map qk_),.rowq 5 (els.set i (q6_ ⟨(pr m i).got,(pr m i).pos,(pr m i).out,true,(pr m i).over⟩)),.row 1 ((List.replicate (pr m i).got.length ([]:Bs)++(pr m i).got.drop (pr m i).got.length).map blV),.row 1 ((catL (pr m i).out (za_ (ndG m.g i) m.f (pr m i).got)).map blV)]:=by
   unfold focR
   rw [hpi,←hrep]
   rfl
  have hfin:=hK []
  rw [e] at hfin
  exact hfin
 have hk2:k<(pr m i).got.length:=by
  have h:=of_decide_eq_true (by assumption:decide ((k:Int)<(((pr m i).got.map blV).length:Int))=true)
  rw [List.length_map] at h
  omega
 conv=>whnf
 refine ⟨_,hei2,?_⟩
 repeat' first|refine ⟨rfl,?_⟩|fail
 refine ⟨k,rfl,by rw [List.length_map,hgl];exact hk2,?_⟩
 conv=>whnf
 refine ⟨by rw [List.length_map,hgl];exact hk2,?_⟩
 repeat' first|refine And.intro (a:=I64 _) ?_ ?_|fail
 ·have hM:((pr m i).got.map blV).length≤MAXL:=by assumption
  rw [List.length_map] at hM
  unfold I64;unfold MAXL at hM;omega
 refine ⟨k+1,?_,by omega,by omega⟩
 have hset2:(List.replicate k ([]:Bs)++(pr m i).got.drop k).set k []=List.replicate (k+1) []++(pr m i).got.drop (k+1):=by
  rw [List.set_append_right _ _ (by simp),List.length_replicate,Nat.sub_self,List.drop_eq_getElem_cons hk2,List.set_cons_zero,List.replicate_succ']
  simp
 rw [←hset2]
 exact (wk_le 3 rfl (qpy_ k)).trans (by (refine qf_ [some 0,some 1,some 2,some 3,some 4] rfl rfl ?_ ?_<;>(repeat' (first|exact qw_ hpe rfl rfl|exact True.intro|exact rfl|exact Or.inl rfl|exact Or.inr rfl|refine And.intro ?_ ?_|fail))))
end Gv
namespace Gv
variable [Glob] [Laid]
theorem qyh_ {l:Bs} (h:(10:UInt8) ∉ l):comp l=[]:=(qlq_ (a:=[]) (.inl rfl) h).1
theorem q4o_ {l:Bs} {j:Nat} (hj:j<l.length) (h:l[j]=10) (hn:(10:UInt8) ∉ l.drop (j+1)):comp l=l.take (j+1):=by
 have e:l=l.take (j+1)++l.drop (j+1):=(List.take_append_drop _ _).symm
 have he:qpb_ (l.take (j+1)):=by
  right
  rw [List.take_succ_eq_append_getElem hj,h]
  simp
 have:=(qlq_ he hn).1
 rwa [List.take_append_drop] at this
theorem yh_ (l:Bs):(comp l).length≤l.length∧l.take (comp l).length=comp l∧l.drop (comp l).length=rest l:=by
 have h:=qeq_ l
 refine ⟨by conv => rhs; rw [← h, List.length_append]
            omega,?_,?_⟩
 ·conv=>lhs;arg 2;rw [←h]
  rw [List.take_left]
 ·conv=>lhs;arg 2;rw [←h]
  rw [List.drop_left]
theorem q5l_:qb_ Tryz.prog 251=true:=by kernel_rfl
def qz3_:Spec:=fun args K=>∃ (l:Bs),args=[.sl qd_ l,.int .u8 10]∧K (.int .i64 (((comp l).length:Int)-1))
noncomputable def qz5_:List (Nat × Spec):=[]
noncomputable def qz4_:List (Nat × FnI):=[]
noncomputable def qpx_:List (Nat × qn_):=[]
theorem q99_:EnvOK ⟨Tryz.prog,tys,qz5_,qz4_,qpx_,[]⟩:=qs_ qt_ tys0 .nil .nil .nil rfl
theorem q5m_:Pure Tryz.prog 251 qz3_:=by
 refine qp_ q99_ 6 (fi:={fn:=Tryz.f251,hooks:=[],draws:=[]}) ⟨Tryz.func251,by kernel_rfl,by kernel_rfl⟩ ?_
 rintro _ K ⟨l,rfl,hK⟩
 replace hK:∀ r,r=.int .i64 (((comp l).length:Int)-1)→K r:=fun r h=>h ▸ hK
 repeat' first|(refine fun (hl:_≤MAXL)=>?_)|refine And.intro (a:=I64 _) ?_ ?_|fail
 ·have hM:l.length≤MAXL:=by assumption
  unfold I64;unfold MAXL at hM;omega
 conv=>whnf
 refine qg_ [0,1] (σ:=Nat) (fun j=>[(5,.int .i64 ((j:Int)-1))]) (fun _=>[]) (fun j=>j≤l.length∧(10:UInt8) ∉ l.drop j) (fun j=>j) l.length ?_
 conv=>whnf
 refine ⟨(by (refine qf_ [] rfl rfl ?_ ?_<;>(repeat' first|exact True.intro|exact rfl|exact .inl rfl|exact .inr rfl|refine And.intro ?_ ?_|fail))),⟨Nat.le_refl _,by simp⟩,fun j hj=>?_⟩
 obtain ⟨hj,hn⟩:=hj
 repeat' first|(refine fun (b:Bool) hb=>?_;cases b<;>first|exact absurd hb (by decide)|exact nfl hb|exact nfr hb|skip)|fail
 ·have h0:j=0 := by
   have h:=of_decide_eq_false (by assumption:decide (0≤(j:Int)-1)=false)
   omega
  subst h0
  conv=>whnf
  refine hK _ ?_
  rw [qyh_ (by simpa using hn)]
  rfl
 have h0:0<j:=by
  have h:=of_decide_eq_true (by assumption:decide (0≤(j:Int)-1)=true)
  omega
 obtain ⟨k,rfl⟩:∃ k,j=k+1:=⟨j-1,by omega⟩
 conv=>whnf
 refine ⟨k,by omega,hj,?_⟩
 repeat' first|(refine fun (b:Bool) hb=>?_;cases b<;>first|exact absurd hb (by decide)|exact nfl hb|exact nfr hb|skip)|refine And.intro (a:=I64 _) ?_ ?_|refine ⟨rfl,?_⟩|fail
 ·have hM:l.length≤MAXL:=by assumption
  unfold I64;unfold MAXL at hM;omega
 ·refine ⟨k,?_,⟨by omega,?_⟩,by omega⟩
  ·show Wk _ _ _ ([(5,.int .i64 ((k:Int)-1))]++_) _
   rw [show (k:Int)-1=((k+1:Nat):Int)-1-1 by omega]
   exact (by (refine qf_ [] rfl rfl ?_ ?_<;>(repeat' first|exact True.intro|exact rfl|exact .inl rfl|exact .inr rfl|refine And.intro ?_ ?_|fail)))
  ·rw [List.drop_eq_getElem_cons hj]
   intro h
   rcases List.mem_cons.1 h with h|h
   ·have h2:=of_decide_eq_false (by assumption:decide ((l[k].toNat:Int)=10)=false)
    rw [←h] at h2
    exact h2 rfl
   ·exact hn h
 ·have h2:=of_decide_eq_true (by assumption:decide ((l[k].toNat:Int)=10)=true)
  have h3:l[k]=10:=by
   apply UInt8.toNat.inj
   have:(10:UInt8).toNat=10:=rfl
   omega
  conv=>whnf
  refine hK _ ?_
  rw [q4o_ hj h3 hn,List.length_take,Nat.min_eq_left hj]
end Gv
namespace Gv
variable [Glob] [Laid]
theorem qyq_:qb_ Tryz.prog 216=true:=by kernel_rfl
def qr6_:Spec:=fun args K=>∃ (l:List UInt8),args=[.sl qd_ l,.sl qd_ [10]]∧K (.int .i64 ((l.count 10:Nat):Int))
theorem qyr_:Pure Tryz.prog 216 qr6_:=by
 refine qm3_ fun w m args us K hm hg hl hv hT=>?_
 obtain ⟨l,rfl,hK⟩:=hT
 obtain ⟨a,b,rfl,ha,hb⟩:=qn7_ hl hv
 obtain ⟨p,c,rfl,hp,hlc,hc,hx⟩:=qah_ ha hm
 obtain ⟨p2,c2,rfl,hp2,hlc2,hc2,hx2⟩:=qah_ hb hm
 refine ⟨_,_,hK,.int,?_⟩
 match p2,hp2,hx2 with
 | none,hp2,_=>exact absurd (hp2 rfl).1 (by simp)
 | some ⟨b2,o2,sp2⟩,_,hx2 =>
  obtain ⟨h1,h2⟩:=hx2 b2 o2 sp2 rfl
  have hs:sp2=none:=h1.resolve_right (by simp)
  subst hs
  have h3:=h2 0 (by simp)
  have h4:w.cell? ⟨b2,o2,none⟩=some (.int .u8 10):=by simpa [Addr.add,qa6_] using h3
  match p,hp,hx with
  | none,hp,_ =>
   obtain ⟨rfl,rfl⟩:=hp rfl
   exact (Tryz.bytes_Count_one_nil b2 o2 c2 10 w h4).mono fun e w' ⟨he,hw⟩=>⟨by rw [he];rfl,by subst hw;exact Bel.refl _ _⟩
  | some ⟨b1,o1,sp1⟩,_,hx =>
   refine (Tryz.bytes_Count_one_at ⟨b1,o1,sp1⟩ l.length c b2 o2 c2 (qa6_ l) 10 w (qb9_ l) (fun i hi=>(hx b1 o1 sp1 rfl).2 i hi) h4).mono fun e w' ⟨he,hw⟩=>⟨by rw [he,qdr_];rfl,by subst hw;exact Bel.refl _ _⟩
end Gv
namespace Gv
variable [Glob] [Laid]
theorem q9m_:qb_ Tryz.prog 73=true:=by kernel_rfl
def q77_:Spec:=fun args K=>∃ (k:Int) (s:Bs) (n:Int),args=[.agg [.int .i64 k,.str s,.int .i64 n]]∧K (.bool (each ⟨k,s,n⟩))
noncomputable def q4v_:List (Nat × Spec):=[]
noncomputable def q4u_:List (Nat × FnI):=[]
noncomputable def qu2_:List (Nat × qn_):=[]
theorem zcu_:EnvOK ⟨Tryz.prog,tys,q4v_,q4u_,qu2_,[]⟩:=qs_ qt_ tys0 .nil .nil .nil rfl
theorem q9o_:Pure Tryz.prog 73 q77_:=by
 refine qp_ zcu_ 6 (fi:={fn:=Tryz.f73,hooks:=[],draws:=[]}) ⟨Tryz.func73,by kernel_rfl,by kernel_rfl⟩ ?_
 rintro _ K ⟨k,s,n,rfl,hK⟩
 replace hK:∀ r,r=.bool (each ⟨k,s,n⟩)→K r:=fun r h=>h ▸ hK
 repeat' first|(refine fun (b:Bool) hb=>?_;cases b<;>first|exact absurd hb (by decide)|exact nfl hb|exact nfr hb|skip)|fail
 all_goals (refine hK _ ?_;simp only [each];congr 1;grind)
end Gv
namespace Gv
variable [Glob] [Laid]
def wj_ (p:PipeS):PipeS × Int:=if zp_ p≠0 then (w6_,zp_ p) else (⟨[],p.room,p.closed,true⟩,0)
theorem zbg_:qb_ Tryz.prog 217=true:=by kernel_rfl
def q8v_:Spec:=fun args K=>∃ p,args=[qk_ p]∧K (.tup [qk_ (wj_ p).1,.int .i64 (wj_ p).2])
noncomputable def q67_:List (Nat × Spec):=[(21,qcu_),(66,yg_),(214,y5_)]
noncomputable def q66_:List (Nat × FnI):=[(213,{fn:=Tryz.f213,hooks:=[],draws:=[(5,[0,0,2,6,14,0,32,96,224,480,1022,2047,4095]),(7,[0,0,2,6,14,0,0,96,254,510,1023,2047,4095])]})]
noncomputable def qwx_:List (Nat × qn_):=[]
theorem zdo_:EnvOK ⟨Tryz.prog,tys,q67_,q66_,qwx_,[]⟩:=qs_ qt_ tys0 (.cons qbr_ qbs_ (.cons x1_ x2_ (.cons yz_ y0_ .nil))) (.cons (by kernel_rfl) ⟨Tryz.func213,by kernel_rfl,by kernel_rfl⟩ .nil) .nil rfl
theorem zbh_:Pure Tryz.prog 217 q8v_:=by
 refine qp_ zdo_ 6 (fi:={fn:=Tryz.f217,hooks:=[],draws:=[]}) ⟨Tryz.func217,by kernel_rfl,by kernel_rfl⟩ ?_
 rintro _ K ⟨p,rfl,hK⟩
 replace hK:∀ r,r=.tup [qk_ (wj_ p).1,.int .i64 (wj_ p).2]→K r:=fun r h=>h ▸ hK
 refine ⟨p,rfl,?_⟩
 repeat' first|(refine fun (b:Bool) hb=>?_;cases b<;>first|exact absurd hb (by decide)|exact nfl hb|exact nfr hb|skip)|refine ⟨UInt8,qd_,?_⟩|fail
 all_goals (refine hK _ ?_;grind [wj_,w6_,qk_])
end Gv
namespace Gv
variable [Glob] [Laid] [Nums] [Errs]
theorem q78_:∀ {l:List Bs} {s:Bs},s∈l→s.length≤(put l).length
 | a::r,s,h=>by
  simp only [put,List.length_append,List.length_cons]
  rcases List.mem_cons.1 h with rfl|h
  ·omega
  ·have:=q78_ h
   omega
theorem q4a_:qb_ Tryz.prog 165=true:=by kernel_rfl
def q89_:qn_:=fun args rows K=>∃ (m:MachS) (i:Nat) (els:List V) (b:Bs),args=[.ptr 0 0 0,.int .i64 i,.sl qd_ b]∧FocOK m i els∧((∀ q∈m.pipes,qi_ q=0)∧0≤(pr m i).pos∧(pr m i).pos<(nI m.g i:Int)∧(pr m i).got.flatten.length+b.length≤400000000∧m.sunk.length≤500000000)∧rows=focR m i els∧(∀ ex,K (.tup []) (focR (xk_ m i b) i els++ex))∧(∀ ex,(ndG m.g i).kind=5→K (.tup []) ([.box [.sl qh_ m.g,.sl qq_ m.f,.own 1,.own 2,.sl qd_ (m.sunk++(gotK m i (pr m i).pos.toNat++b))],.row 4 (m.pipes.map qk_),.rowq 5 (els.set i (q6_ (pr m i))),.row 1 (((pr m i).got.map blV).set (pr m i).pos.toNat .nil),.row 1 ((pr m i).out.map blV)]++ex))
noncomputable def qxv_:List (Nat × Spec):=[(214,y5_),(90,qji_),(91,qed_),(93,put_S),(66,yg_),(73,q77_),(95,qb3_),(217,q8v_),(216,qr6_),(251,qz3_)]
noncomputable def qxu_:List (Nat × FnI):=[(215,{fn:=Tryz.f215,hooks:=[],draws:=[]}),(163,{ fn:=Tryz.f163,spec:=some qpi_ })]
noncomputable def qn8_:List (Nat × qn_):=[]
theorem q88_:EnvOK ⟨Tryz.prog,tys,qxv_,qxu_,qn8_,[]⟩:=qs_ qt_ tys0 (.cons yz_ y0_ (.cons qmf_ qmg_ (.cons qfb_ qfc_ (.cons q1w_ q1x_ (.cons x1_ x2_ (.cons q9m_ q9o_ (.cons qc5_ qc6_ (.cons zbg_ zbh_ (.cons qyq_ qyr_ (.cons q5l_ q5m_ .nil)))))))))) (.cons (by kernel_rfl) ⟨Tryz.func215,by kernel_rfl,by kernel_rfl⟩ (.told qi8_ rfl qhh_ .nil)) .nil rfl
theorem qt0_:q1_ Tryz.prog 165 q89_:=by
 refine xm_ q88_ 6 q4a_ (fi:={fn:=Tryz.f165,hooks:=[1,15],draws:=[(0,[0,1,3,7,0,31,0,64,192,448,960,0,4032,8128,0,16447,65535]),(1,[0,1,3,7,0,16,48,112,255,511]),(4,[0,0,0,4,12,28,0,64,192,508,1020,2045,4093,8189,16383,32767]),(11,[0,1,3,7,0,16,48,112,240,496,0,1024,4080,8176,16383,32767]),(12,[0,1,3,7,15,31,63,127,255,511,1023,2047,4095,1023,16383,1023,33791,99327,262143,524287,1048575]),(14,[0,1,3,7,0,0,32,96,224,0,992,2016,4064,8160,16352,16352,32767,98303])]}) ⟨Tryz.func165,by kernel_rfl,by kernel_rfl⟩ ?_
 rintro args rows K ⟨m,i,els,b,rfl,h,⟨hq,hp0,hp1,hsz,hsk⟩,rfl,hK,hN⟩
 have hei:(els.set i (q6_ (pr m i)))[i]?=some (q6_ (pr m i)):=List.getElem?_set_self (by rw [h.nl];exact h.lt)
 have hel:(els.set i (q6_ (pr m i))).length=m.g.length:=by rw [List.length_set,h.nl]
 have hpe:=h.pe
 have hgf:=gf_of h.g
 have hnd:ndG m.g i=m.g[i]'(h.lt):=xb_ h.lt
 obtain ⟨k,hk⟩:∃ k:Nat,(pr m i).pos=k:=⟨(pr m i).pos.toNat,by omega⟩
 have hkl:k<(pr m i).got.length:=by rw [h.got];omega
 have hkt:(pr m i).pos.toNat=k:=by omega
 unfold focR
 conv=>whnf
 refine ql_ [0,1,2] (σ:=Unit) (fun _=>[(6,.ptr 2 i 0),(7,.ptr 5 0 0)]) (fun _=>[.box [.sl qh_ m.g,.sl qq_ m.f,.own 1,.own 2,.sl qd_ m.sunk],.row 4 (m.pipes.map qk_),.rowq 5 (els.set i (q6_ (pr m i))),.row 1 ((pr m i).got.map blV),.row 1 ((pr m i).out.map blV),.box (qh_ (ndG m.g i)).cells]) (fun _=>True) ?_
 conv=>whnf
 refine ⟨?_,fun _ _=>?_⟩
 ·conv=>whnf
  repeat' first|exact True.intro|refine ⟨_,⟨rfl,rfl⟩,?_⟩|refine And.intro (a:=qj_ _ _ _ _ _ _ _ _) ?_ ?_|fail
  conv=>whnf
  apply Exists.intro
  apply And.intro
  ·repeat' first|refine ⟨_,rfl,?_,rfl,?_⟩|refine ⟨rfl,?_⟩|fail
   ·rw [hel];exact h.lt
   ·exact rfl
  conv=>whnf
  refine ⟨trivial,?_⟩
  conv=>whnf
  repeat' first|exact True.intro|refine ⟨_,⟨rfl,rfl⟩,?_⟩|refine ⟨_,_,⟨rfl,rfl⟩,?_⟩|refine And.intro (a:=qx_ _ _ _ _ _ _) ?_ ?_|refine And.intro (a:=qj_ _ _ _ _ _ _ _ _) ?_ ?_|refine ⟨⟨rfl,rfl⟩,?_⟩|refine ⟨_,⟨_,rfl,?_,rfl,rfl,rfl⟩,?_⟩|fail
  conv=>whnf
  skip
  ·exact h.lt
  ·conv=>whnf
   refine ⟨?_,?_⟩
   ·conv=>whnf
    refine ⟨rfl,i,rfl,by rw [hel];exact h.lt,?_⟩
    exact ⟨rfl,rfl⟩
   ·conv=>whnf
    repeat' first|exact True.intro|refine ⟨⟨rfl,rfl⟩,?_⟩|fail
    all_goals done
  conv=>whnf
  rw [hnd]
  exact ⟨(),(by (refine qf_ [some 0,some 1,some 2,some 3,some 4,some 5] rfl rfl ?_ ?_<;>(repeat' (first|exact qw_ hpe rfl rfl|exact True.intro|exact rfl|exact Or.inl rfl|exact Or.inr rfl|refine And.intro ?_ ?_|fail)))),trivial⟩
 conv=>whnf
 repeat' first|refine ⟨_,⟨rfl,rfl⟩,?_⟩|fail
 conv=>whnf
 apply Exists.intro
 apply And.intro
 ·conv=>whnf
  refine ⟨_,hei,?_⟩
  repeat' first|refine ⟨rfl,?_⟩|fail
  exact rfl
 conv=>whnf
 refine ⟨trivial,?_⟩
 conv=>whnf
 repeat' first|refine ⟨_,⟨rfl,rfl⟩,?_⟩|fail
 conv=>whnf
 apply Exists.intro
 apply And.intro
 ·conv=>whnf
  refine ⟨_,hei,?_⟩
  repeat' first|refine ⟨rfl,?_⟩|fail
  exact rfl
 conv=>whnf
 refine ⟨trivial,?_⟩
 conv=>whnf
 apply Exists.intro
 apply And.intro
 ·refine ⟨rfl,k,hk,by rw [List.length_map];exact hkl,?_⟩
  exact ⟨rfl,rfl⟩
 conv=>whnf
 refine ⟨trivial,?_⟩
 conv=>whnf
 repeat' first|refine ⟨_,⟨rfl,rfl⟩,?_⟩|fail
 have hgk:((pr m i).got.map blV)[k]?=some (blV (gotK m i k)):=by
  rw [List.getElem?_map,List.getElem?_eq_getElem hkl]
  unfold gotK
  rw [List.getD_eq_getElem?_getD,List.getElem?_eq_getElem hkl];rfl
 have hgl:(gotK m i k).length+b.length≤400000000:=by
  have:=w4_ (pr m i).got k
  unfold gotK;omega
 refine ⟨_,hgk,?_⟩
 skip
 refine ⟨Bs,blV,[gotK m i k,b],LeL.refl _,?_⟩
 skip
 refine ⟨[gotK m i k,b],rfl,?_,?_⟩
 ·simp;omega
 skip
 refine ⟨by rw [List.length_map];exact hkl,?_⟩
 have hxl:([gotK m i k,b].flatten).length≤400000000:=by simp;omega
 have hx:[gotK m i k,b].flatten=gotK m i k++b:=by simp
 have hgx:(((pr m i).got.map blV).set k (.sl qd_ [gotK m i k,b].flatten))[k]?=some (blV [gotK m i k,b].flatten):=List.getElem?_set_self (by rw [List.length_map];exact hkl)
 have hgxl:k<(((pr m i).got.map blV).set k (.sl qd_ [gotK m i k,b].flatten)).length:=by rw [List.length_set,List.length_map];exact hkl
 have hb2:[gotK m i k,b].flatten.length=(gotK m i k).length+b.length:=by simp
 generalize [gotK m i k,b].flatten=x at hx hgx hxl hgxl hb2
 rw [hkt] at hN
 have hmp:i<m.p.length:=by rw [h.np];exact h.lt
 have hset:((pr m i).got.map blV).set k (.sl qd_ x)=(setGot (pr m i) k x).got.map blV:=by
  show _=((pr m i).got.set k x).map blV
  rw [List.map_set];rfl
 have hnone:∀ (h5:¬ (ndG m.g i).kind=5) (h2:¬ (wv_ (ndG m.g i)=true∨ya_ (ndG m.g i)=true)) (h3:¬ (vg_ (ndG m.g i)=true∧(ndG m.g i).c.n≤(wu_ x:Int))) (ex:Rows),K (.tup []) ([.box [.sl qh_ m.g,.sl qq_ m.f,.own 1,.own 2,.sl qd_ m.sunk],.row 4 (m.pipes.map qk_),.rowq 5 (els.set i (q6_ (pr m i))),.row 1 (((pr m i).got.map blV).set k (.sl qd_ x)),.row 1 ((pr m i).out.map blV)]++ex):=fun h5 h2 h3 ex=>by
  have:=hK ex
  rw [qku_ hkt h5 h2 (by rw [←hx];exact h3),xj_ hmp,←hx] at this
  rw [hset]
  exact this
 have heach:∀ (l:List Bs) (hl:l=(if (ndG m.g i).kind=3 then zq_ (ndG m.g i).c (qc_ (comp x)) else qc_ (comp x))) (h5:¬ (ndG m.g i).kind=5) (h2:wv_ (ndG m.g i)=true∨ya_ (ndG m.g i)=true) (ex:Rows),K (.tup []) ([.box [.sl qh_ m.g,.sl qq_ m.f,.own 1,.own 2,.sl qd_ m.sunk],.row 4 (m.pipes.map qk_),.rowq 5 (els.set i (q6_ (pr m i))),.row 1 ((((pr m i).got.map blV).set k (.sl qd_ x)).set k (.sl qd_ (x.drop (comp x).length))),.row 1 (((pr m i).out.map blV).set 0 (.sl qd_ [outK m i 0,put l].flatten))]++ex):=fun l hl h5 h2 ex=>by
  have:=hK ex
  rw [qen_ hkt h5 h2,xj_ hmp,←hx,←hl] at this
  have e1:(((pr m i).got.map blV).set k (.sl qd_ x)).set k (.sl qd_ (x.drop (comp x).length))=((pr m i).got.set k (rest x)).map blV:=by
   rw [List.set_set,List.map_set,←(yh_ x).2.2];rfl
  have e2:((pr m i).out.map blV).set 0 (.sl qd_ [outK m i 0,put l].flatten)=((pr m i).out.set 0 (outK m i 0++put l)).map blV:=by
   rw [List.map_set];simp [blV]
  rw [e1,e2]
  exact this
 have hcl:=yh_ x
 have hll:(qc_ (x.take (comp x).length)).length≤900000000:=by
  have:=xl_ (x.take (comp x).length)
  rw [List.length_take] at this
  omega
 have hls:∀ s∈qc_ (x.take (comp x).length),s.length≤900000000:=fun s hs=>by
  have h1:=xn_ (x.take (comp x).length)
  have h2:=q78_ hs
  rw [List.length_take] at h1
  omega
 repeat' first|exact True.intro|(refine fun (b:Bool) hb=>?_;cases b<;>first|exact absurd hb (by decide)|exact nfl hb|exact nfr hb|skip)|refine ⟨_,⟨rfl,rfl⟩,?_⟩|refine And.intro (a:=qj_ _ _ _ _ _ _ _ _) ?_ ?_|fail
 rotate_right
 ·
  have h5:(ndG m.g i).kind=5:=of_decide_eq_true (by assumption)
  conv=>whnf
  apply Exists.intro
  apply And.intro
  ·refine ⟨_,hgx,?_⟩
   repeat' first|refine ⟨rfl,?_⟩|fail
   exact rfl
  conv=>whnf
  refine ⟨trivial,?_⟩
  conv=>whnf
  refine ⟨_,⟨Bs,blV,[m.sunk,x],LeL.refl _,rfl,rfl⟩,?_⟩
  conv=>whnf
  apply Exists.intro
  apply And.intro
  ·refine ⟨[m.sunk,x],rfl,by simp;omega,?_⟩
   exact ⟨rfl,rfl⟩
  conv=>whnf
  repeat' first|exact True.intro|refine ⟨_,⟨rfl,rfl⟩,?_⟩|refine ⟨_,_,⟨rfl,rfl⟩,?_⟩|refine And.intro (a:=qx_ _ _ _ _ _ _) ?_ ?_|fail
  conv=>whnf
  apply Exists.intro
  apply Exists.intro
  apply And.intro
  ·conv=>whnf
   refine ⟨hgxl,?_⟩
   exact ⟨rfl,rfl⟩
  conv=>whnf
  repeat' first|exact True.intro|refine And.intro (a:=qx_ _ _ _ _ _ _) ?_ ?_|fail
  conv=>whnf
  have hfin:=hN [.box (qh_ (ndG m.g i)).cells,.fz blV [gotK m i k,b]] h5
  rw [←hx] at hfin
  rw [List.set_set]
  have e:[m.sunk,x].flatten=m.sunk++x:=by simp
  rw [e]
  exact hfin
 ·
  have h5:¬ (ndG m.g i).kind=5:=of_decide_eq_false (by assumption)
  have h4:¬ (ndG m.g i).kind=4:=of_decide_eq_false (by assumption)
  have h3:¬ (ndG m.g i).kind=3:=of_decide_eq_false (by assumption)
  conv=>whnf
  exact hnone h5 (by simp [wv_,ya_,h4,h3]) (by simp [vg_,h3]) [.box (qh_ (ndG m.g i)).cells,.fz blV [gotK m i k,b]]
 ·exact absurd (of_decide_eq_true (by assumption:decide ((ndG m.g i).kind=3)=true)) (of_decide_eq_false (by assumption))
 ·exact absurd (of_decide_eq_true (by assumption:decide ((ndG m.g i).kind=3)=true)) (of_decide_eq_false (by assumption))
 ·
  have h5:¬ (ndG m.g i).kind=5:=of_decide_eq_false (by assumption)
  have h4:¬ (ndG m.g i).kind=4:=of_decide_eq_false (by assumption)
  have h3:(ndG m.g i).kind=3:=of_decide_eq_true (by assumption)
  conv=>whnf
  refine ⟨(ndG m.g i).c.kind,(ndG m.g i).c.word,(ndG m.g i).c.n,rfl,?_⟩
  repeat' first|exact True.intro|(refine fun (b:Bool) hb=>?_;cases b<;>first|exact absurd hb (by decide)|exact nfl hb|exact nfr hb|skip)|refine ⟨_,⟨rfl,rfl⟩,?_⟩|refine And.intro (a:=qj_ _ _ _ _ _ _ _ _) ?_ ?_|fail
  rotate_right
  ·have he:each (ndG m.g i).c=true:=by assumption
   have hcc:qz_ (ndG m.g i).c=0:=by
    rcases z3_ (hgf.node i h.lt) with ⟨a,_⟩|⟨a,_⟩|⟨a,_,e⟩|⟨a,_⟩|⟨a,_⟩<;>first|exact e|omega
   have hol:0<(pr m i).out.length:=by
    have:=h.out
    unfold nO zh_ at this
    rw [if_neg (by omega),if_neg (by omega)] at this
    omega
   have hgo:((pr m i).out.map blV)[0]?=some (blV (outK m i 0)):=by
    rw [List.getElem?_map,List.getElem?_eq_getElem hol]
    unfold outK
    rw [List.getD_eq_getElem?_getD,List.getElem?_eq_getElem hol];rfl
   have hob:(outK m i 0).length≤400000000:=by
    unfold outK
    rw [List.getD_eq_getElem?_getD,List.getElem?_eq_getElem hol]
    exact h.big _ (List.mem_append_right _ (List.getElem_mem hol))
   have hpl:(put (zq_ (ndG m.g i).c (qc_ (x.take (comp x).length)))).length≤500000000:=by
    have h1:=xn_ (x.take (comp x).length)
    have h2:=yb_ hcc (qc_ (x.take (comp x).length)) hll
    rw [List.length_take] at h1
    omega
   conv=>whnf
   refine ⟨_,hgx,?_⟩
   skip
   refine ⟨x,rfl,?_⟩
   repeat' first|refine And.intro (a:=I64 _) ?_ ?_|fail
   ·have:=(yh_ x).1
    unfold I64;omega
   refine ⟨_,hgx,?_⟩
   repeat' first|refine ⟨(fun _=>rfl),?_⟩|fail
   refine ⟨(comp x).length,by omega,(yh_ x).1,?_⟩
   skip
   refine ⟨x.take (comp x).length,rfl,by rw [List.length_take];omega,?_⟩
   skip
   refine ⟨_,hgx,?_⟩
   repeat' first|refine ⟨(fun _=>rfl),?_⟩|fail
   refine ⟨(comp x).length,by omega,(yh_ x).1,?_⟩
   skip
   refine ⟨x.drop (comp x).length,rfl,by rw [List.length_drop];omega,?_⟩
   skip
   refine ⟨hgxl,?_⟩
   repeat' first|(refine fun (b:Bool) hb=>?_;cases b<;>first|exact absurd hb (by decide)|exact nfl hb|exact nfr hb|skip)|refine ⟨_,⟨rfl,rfl⟩,?_⟩|fail
   ·exact absurd h3 (of_decide_eq_false (by assumption))
   refine ⟨(ndG m.g i).c,qc_ (x.take (comp x).length),rfl,⟨hcc,hll,hls⟩,?_⟩
   repeat' first|refine ⟨_,⟨rfl,rfl⟩,?_⟩|fail
   conv=>whnf
   apply Exists.intro
   apply And.intro
   ·conv=>whnf
    refine ⟨_,hei,?_⟩
    repeat' first|refine ⟨rfl,?_⟩|fail
    exact rfl
   conv=>whnf
   refine ⟨trivial,?_⟩
   conv=>whnf
   repeat' first|refine ⟨_,⟨rfl,rfl⟩,?_⟩|fail
   conv=>whnf
   apply Exists.intro
   apply And.intro
   ·conv=>whnf
    refine ⟨_,hei,?_⟩
    repeat' first|refine ⟨rfl,?_⟩|fail
    exact rfl
   conv=>whnf
   refine ⟨trivial,?_⟩
   conv=>whnf
   apply Exists.intro
   apply And.intro
   ·refine ⟨rfl,0,rfl,by rw [List.length_map];exact hol,?_⟩
    exact ⟨rfl,rfl⟩
   conv=>whnf
   refine ⟨trivial,?_⟩
   conv=>whnf
   apply Exists.intro
   apply And.intro
   ·refine ⟨_,hgo,?_⟩
    repeat' first|refine ⟨rfl,?_⟩|fail
    exact rfl
   conv=>whnf
   refine ⟨trivial,?_⟩
   conv=>whnf
   repeat' first|refine ⟨_,⟨rfl,rfl⟩,?_⟩|fail
   apply Exists.intro
   apply And.intro
   ·refine ⟨zq_ (ndG m.g i).c (qc_ (x.take (comp x).length)),rfl,by omega,?_⟩
    exact ⟨rfl,rfl⟩
   conv=>whnf
   refine ⟨_,⟨Bs,blV,[outK m i 0,put (zq_ (ndG m.g i).c (qc_ (x.take (comp x).length)))],LeL.refl _,rfl,rfl⟩,?_⟩
   conv=>whnf
   apply Exists.intro
   apply And.intro
   ·refine ⟨[outK m i 0,put (zq_ (ndG m.g i).c (qc_ (x.take (comp x).length)))],rfl,by simp;omega,?_⟩
    exact ⟨rfl,rfl⟩
   conv=>whnf
   apply Exists.intro
   apply And.intro
   ·refine ⟨rfl,0,rfl,by rw [List.length_map];exact hol,?_⟩
    exact ⟨rfl,rfl⟩
   conv=>whnf
   refine ⟨trivial,?_⟩
   conv=>whnf
   apply Exists.intro
   apply Exists.intro
   apply And.intro
   ·conv=>whnf
    refine ⟨by rw [List.length_map];exact hol,?_⟩
    exact ⟨rfl,rfl⟩
   conv=>whnf
   repeat' first|exact True.intro|refine And.intro (a:=qx_ _ _ _ _ _ _) ?_ ?_|fail
   conv=>whnf
   exact heach (zq_ (ndG m.g i).c (qc_ (x.take (comp x).length))) (by rw [if_pos h3,(yh_ x).2.1]) h5 (by simp [ya_,h3,he]) [.box (qh_ (ndG m.g i)).cells,.fz blV [gotK m i k,b]]
  ·exact absurd h3 (of_decide_eq_false (by assumption))
  all_goals
   have he:each (ndG m.g i).c=false:=by assumption
   have hbe:¬ (wv_ (ndG m.g i)=true∨ya_ (ndG m.g i)=true):=by simp [wv_,ya_,h4,he]
  ·have h9:¬ (ndG m.g i).c.kind=9:=of_decide_eq_false (by assumption)
   conv=>whnf
   exact hnone h5 hbe (by simp [vg_,h9]) [.box (qh_ (ndG m.g i)).cells,.fz blV [gotK m i k,b]]
  have h9:(ndG m.g i).c.kind=9:=of_decide_eq_true (by assumption)
  conv=>whnf
  apply Exists.intro
  apply And.intro
  ·refine ⟨_,hgx,?_⟩
   repeat' first|refine ⟨rfl,?_⟩|fail
   exact rfl
  conv=>whnf
  refine ⟨trivial,?_⟩
  conv=>whnf
  refine ⟨_,⟨UInt8,qd_,[10],LeL.refl _,rfl,rfl⟩,?_⟩
  conv=>whnf
  apply Exists.intro
  apply And.intro
  ·refine ⟨x,rfl,?_⟩
   exact ⟨rfl,rfl⟩
  conv=>whnf
  repeat' first|exact True.intro|(refine fun (b:Bool) hb=>?_;cases b<;>first|exact absurd hb (by decide)|exact nfl hb|exact nfr hb|skip)|refine ⟨_,⟨rfl,rfl⟩,?_⟩|refine And.intro (a:=qj_ _ _ _ _ _ _ _ _) ?_ ?_|fail
  conv=>whnf
  skip
  ·have hc:=of_decide_eq_false (by assumption:decide ((ndG m.g i).c.n≤((List.count 10 x:Nat):Int))=false)
   conv=>whnf
   exact hnone h5 hbe (fun h=>hc h.2) [.box (qh_ (ndG m.g i)).cells,.fz blV [gotK m i k,b]]
  have hc:=of_decide_eq_true (by assumption:decide ((ndG m.g i).c.n≤((List.count 10 x:Nat):Int))=true)
  have hin:insB m.g i+k<(qr_ m.g).length:=by
   have h1:=x4_ h.lt
   have h2:=y7_ (N:=m.g) (i:=i+1) (j:=m.g.length) h.lt (Nat.le_refl _)
   rw [yi_] at h2
   omega
  have hiq:insB m.g i<m.pipes.length:=by rw [h.nq];omega
  have hgq:(m.pipes.map qk_)[insB m.g i]?=some (qk_ (qu m (insB m.g i))):=by
   rw [List.getElem?_map,List.getElem?_eq_getElem hiq]
   unfold qu
   rw [List.getD_eq_getElem?_getD,List.getElem?_eq_getElem hiq]
   rfl
  have hqc:qi_ (qu m (insB m.g i))=0:=by
   unfold qu
   rw [List.getD_eq_getElem?_getD,List.getElem?_eq_getElem hiq]
   exact hq _ (List.getElem_mem hiq)
  have hsh:(wj_ (qu m (insB m.g i))).1=yy_ (qu m (insB m.g i)):=by
   unfold wj_
   rw [z9_,if_neg (by rw [hqc];decide)]
   rfl
  conv=>whnf
  refine ⟨m.g,i,rfl,⟨Nat.le_of_lt h.lt,z0_ h.g⟩,?_⟩
  conv=>whnf
  refine ql_ [0,1] (σ:=Unit) (fun _=>[]) (fun _=>[.box [.sl qh_ m.g,.sl qq_ m.f,.own 1,.own 2,.sl qd_ m.sunk],.row 4 ((m.pipes.set (insB m.g i) (yy_ (qu m (insB m.g i)))).map qk_),.rowq 5 (els.set i (q6_ (setGot (pr m i) k x))),.row 1 ((setGot (pr m i) k x).got.map blV),.row 1 ((setGot (pr m i) k x).out.map blV)]) (fun _=>True) ?_
  conv=>whnf
  refine ⟨?_,fun _ _=>?_⟩
  ·conv=>whnf
   repeat' first|exact True.intro|refine ⟨_,⟨rfl,rfl⟩,?_⟩|refine And.intro (a:=qj_ _ _ _ _ _ _ _ _) ?_ ?_|fail
   conv=>whnf
   apply Exists.intro
   apply And.intro
   ·refine ⟨rfl,insB m.g i,rfl,by rw [List.length_map];exact hiq,?_⟩
    exact ⟨rfl,rfl⟩
   conv=>whnf
   refine ⟨trivial,?_⟩
   conv=>whnf
   apply Exists.intro
   apply And.intro
   ·refine ⟨_,hgq,?_⟩
    repeat' first|refine ⟨rfl,?_⟩|fail
    exact rfl
   conv=>whnf
   refine ⟨trivial,?_⟩
   conv=>whnf
   apply Exists.intro
   apply And.intro
   ·refine ⟨qu m (insB m.g i),rfl,?_⟩
    exact ⟨rfl,rfl⟩
   conv=>whnf
   repeat' first|refine ⟨_,⟨rfl,rfl⟩,?_⟩|fail
   conv=>whnf
   apply Exists.intro
   apply And.intro
   ·refine ⟨rfl,insB m.g i,rfl,by rw [List.length_map];exact hiq,?_⟩
    exact ⟨rfl,rfl⟩
   conv=>whnf
   refine ⟨trivial,?_⟩
   conv=>whnf
   apply Exists.intro
   apply Exists.intro
   apply And.intro
   ·conv=>whnf
    refine ⟨by rw [List.length_map];exact hiq,?_⟩
    exact ⟨rfl,rfl⟩
   conv=>whnf
   repeat' first|exact True.intro|refine And.intro (a:=qx_ _ _ _ _ _ _) ?_ ?_|fail
   conv=>whnf
   rw [←hset,List.map_set,←hsh]
   exact ⟨(),(by (refine qf_ [some 0,some 1,some 2,some 3,some 4] rfl rfl ?_ ?_<;>(repeat' (first|exact qw_ hpe rfl rfl|exact True.intro|exact rfl|exact Or.inl rfl|exact Or.inr rfl|refine And.intro ?_ ?_|fail)))),trivial⟩
  have hml:(m.pipes.set (insB m.g i) (yy_ (qu m (insB m.g i)))).length=m.pipes.length:=List.length_set
  have hmr:∀ p∈m.pipes.set (insB m.g i) (yy_ (qu m (insB m.g i))),p.b.length≤400000000:=fun p hp=>by
   rcases List.mem_or_eq_of_mem_set hp with hp|rfl
   ·exact h.room p hp
   ·exact Nat.zero_le _
  have hF:=qvd_ (k:=k) h hxl hml hmr
  have hpr:pr ⟨m.g,m.f,m.pipes.set (insB m.g i) (yy_ (qu m (insB m.g i))),m.p.set i (setGot (pr m i) k x),m.sunk⟩ i=setGot (pr m i) k x:=by
   show (m.p.set i _).getD i q3v_=_
   rw [xy_,if_pos ⟨rfl,hmp⟩]
  have hfl:=qae_ (pr m i).got k x hkl
  have hgd:(pr m i).got.getD k []=gotK m i k:=rfl
  rw [hgd] at hfl
  conv=>whnf
  refine ⟨⟨m.g,m.f,m.pipes.set (insB m.g i) (yy_ (qu m (insB m.g i))),m.p.set i (setGot (pr m i) k x),m.sunk⟩,i,els,rfl,hF,?_,?_,fun ex=>?_⟩
  ·rw [hpr]
   show ((pr m i).got.set k x).flatten.length≤500000000
   omega
  ·exact (xj_ hmp).symm
  ·conv=>whnf
   have hfin:=hK ex
   rw [qkt_ hkt h5 hbe ⟨by simp [vg_,h3,h9],by rw [←hx];exact hc⟩,←hx] at hfin
   exact hfin
 ·
  have h5:¬ (ndG m.g i).kind=5:=of_decide_eq_false (by assumption)
  have h4:(ndG m.g i).kind=4:=of_decide_eq_true (by assumption)
  have h1:¬ (ndG m.g i).how=1:=of_decide_eq_false (by assumption)
  have h3:¬ (ndG m.g i).kind=3:=of_decide_eq_false (by assumption)
  conv=>whnf
  exact hnone h5 (by simp [wv_,ya_,h4,h1]) (by simp [vg_,h3]) [.box (qh_ (ndG m.g i)).cells,.fz blV [gotK m i k,b]]
 ·exact absurd (of_decide_eq_true (by assumption:decide ((ndG m.g i).kind=3)=true)) (of_decide_eq_false (by assumption))
 ·exact absurd (of_decide_eq_true (by assumption:decide ((ndG m.g i).kind=3)=true)) (of_decide_eq_false (by assumption))
 ·have h4:=of_decide_eq_true (by assumption:decide ((ndG m.g i).kind=4)=true)
  have h3:=of_decide_eq_true (by assumption:decide ((ndG m.g i).kind=3)=true)
  omega
 ·
  have h5:¬ (ndG m.g i).kind=5:=of_decide_eq_false (by assumption)
  have h4:(ndG m.g i).kind=4:=of_decide_eq_true (by assumption)
  have h1:(ndG m.g i).how=1:=of_decide_eq_true (by assumption)
  have hol:0<(pr m i).out.length:=by
   have:=h.out
   unfold nO zh_ at this
   rw [if_neg (by omega),if_neg (by omega)] at this
   omega
  have hgo:((pr m i).out.map blV)[0]?=some (blV (outK m i 0)):=by
   rw [List.getElem?_map,List.getElem?_eq_getElem hol]
   unfold outK
   rw [List.getD_eq_getElem?_getD,List.getElem?_eq_getElem hol];rfl
  have hob:(outK m i 0).length≤400000000:=by
   unfold outK
   rw [List.getD_eq_getElem?_getD,List.getElem?_eq_getElem hol]
   exact h.big _ (List.mem_append_right _ (List.getElem_mem hol))
  have hpl:(put (qc_ (x.take (comp x).length))).length≤500000000:=by
   have h1:=xn_ (x.take (comp x).length)
   rw [List.length_take] at h1
   omega
  conv=>whnf
  refine ⟨_,hgx,?_⟩
  skip
  refine ⟨x,rfl,?_⟩
  repeat' first|refine And.intro (a:=I64 _) ?_ ?_|fail
  ·have:=(yh_ x).1
   unfold I64;omega
  refine ⟨_,hgx,?_⟩
  repeat' first|refine ⟨(fun _=>rfl),?_⟩|fail
  refine ⟨(comp x).length,by omega,(yh_ x).1,?_⟩
  skip
  refine ⟨x.take (comp x).length,rfl,by rw [List.length_take];omega,?_⟩
  skip
  refine ⟨_,hgx,?_⟩
  repeat' first|refine ⟨(fun _=>rfl),?_⟩|fail
  refine ⟨(comp x).length,by omega,(yh_ x).1,?_⟩
  skip
  refine ⟨x.drop (comp x).length,rfl,by rw [List.length_drop];omega,?_⟩
  skip
  refine ⟨hgxl,?_⟩
  repeat' first|(refine fun (b:Bool) hb=>?_;cases b<;>first|exact absurd hb (by decide)|exact nfl hb|exact nfr hb|skip)|refine ⟨_,⟨rfl,rfl⟩,?_⟩|fail
  rotate_right
  ·exact absurd (of_decide_eq_true (by assumption:decide ((ndG m.g i).kind=3)=true)) (by omega)
  conv=>whnf
  apply Exists.intro
  apply And.intro
  ·conv=>whnf
   refine ⟨_,hei,?_⟩
   repeat' first|refine ⟨rfl,?_⟩|fail
   exact rfl
  conv=>whnf
  refine ⟨trivial,?_⟩
  conv=>whnf
  repeat' first|refine ⟨_,⟨rfl,rfl⟩,?_⟩|fail
  conv=>whnf
  apply Exists.intro
  apply And.intro
  ·conv=>whnf
   refine ⟨_,hei,?_⟩
   repeat' first|refine ⟨rfl,?_⟩|fail
   exact rfl
  conv=>whnf
  refine ⟨trivial,?_⟩
  conv=>whnf
  apply Exists.intro
  apply And.intro
  ·refine ⟨rfl,0,rfl,by rw [List.length_map];exact hol,?_⟩
   exact ⟨rfl,rfl⟩
  conv=>whnf
  refine ⟨trivial,?_⟩
  conv=>whnf
  apply Exists.intro
  apply And.intro
  ·refine ⟨_,hgo,?_⟩
   repeat' first|refine ⟨rfl,?_⟩|fail
   exact rfl
  conv=>whnf
  refine ⟨trivial,?_⟩
  conv=>whnf
  repeat' first|refine ⟨_,⟨rfl,rfl⟩,?_⟩|fail
  apply Exists.intro
  apply And.intro
  ·refine ⟨qc_ (x.take (comp x).length),rfl,by omega,?_⟩
   exact ⟨rfl,rfl⟩
  conv=>whnf
  refine ⟨_,⟨Bs,blV,[outK m i 0,put (qc_ (x.take (comp x).length))],LeL.refl _,rfl,rfl⟩,?_⟩
  conv=>whnf
  apply Exists.intro
  apply And.intro
  ·refine ⟨[outK m i 0,put (qc_ (x.take (comp x).length))],rfl,by simp;omega,?_⟩
   exact ⟨rfl,rfl⟩
  conv=>whnf
  apply Exists.intro
  apply And.intro
  ·refine ⟨rfl,0,rfl,by rw [List.length_map];exact hol,?_⟩
   exact ⟨rfl,rfl⟩
  conv=>whnf
  refine ⟨trivial,?_⟩
  conv=>whnf
  apply Exists.intro
  apply Exists.intro
  apply And.intro
  ·conv=>whnf
   refine ⟨by rw [List.length_map];exact hol,?_⟩
   exact ⟨rfl,rfl⟩
  conv=>whnf
  repeat' first|exact True.intro|refine And.intro (a:=qx_ _ _ _ _ _ _) ?_ ?_|fail
  conv=>whnf
  exact heach (qc_ (x.take (comp x).length)) (by rw [if_neg (by omega),(yh_ x).2.1]) h5 (by simp [wv_,h4,h1]) [.box (qh_ (ndG m.g i)).cells,.fz blV [gotK m i k,b]]
end Gv
namespace Gv
variable [Glob] [Laid] [Nums] [Errs]
theorem q4b_:qb_ Tryz.prog 165=true:=by kernel_rfl
def qxw_:qn_:=fun args rows K=>∃ (m:MachS) (i:Nat) (els:List V) (b:Bs),args=[.ptr 0 0 0,.int .i64 i,.sl qd_ b]∧FocOK m i els∧((∀ q∈m.pipes,qi_ q=0)∧0≤(pr m i).pos∧(pr m i).pos<(nI m.g i:Int)∧(pr m i).got.flatten.length+b.length≤400000000∧m.sunk.length≤500000000)∧rows=focR m i els∧∀ ex,K (.tup []) (focR (xk_ m i b) i els++ex)
theorem qt1_:q1_ Tryz.prog 165 qxw_:=by
 intro w0 m0 args rows K R m' q w us C hv hT
 obtain ⟨m,i,els,b,rfl,h,hz,rfl,hK⟩:=hT
 refine q1s_ qt0_ w0 m0 _ _ K R m' q w us C hv ⟨m,i,els,b,rfl,h,hz,rfl,fun ex=>.inl (hK ex),fun ex h5=>.inr ⟨3,1,((pr m i).got.map blV).set (pr m i).pos.toNat .nil,((pr m i).got.set (pr m i).pos.toNat []).map blV,rfl,qpy_ _,?_⟩⟩
 have:=hK ex
 rw [qkv_ rfl h5,xj_ (by rw [h.np];exact h.lt)] at this
 exact this
end Gv
namespace Gv
variable [Glob] [Laid] [Nums] [Errs]
theorem zd2_ {p:PipeS} (h:qi_ p=0):(zv_ p 8).1=⟨p.b.drop 8,p.room,p.closed,p.shut⟩∧(zv_ p 8).2.1=p.b.take 8:=by
 unfold zv_
 rw [z9_,if_neg (by rw [h];decide),if_neg (by decide)]
 rcases Nat.lt_or_ge p.b.length 8 with h2|h2
 ·have e:(min (8:Int) (p.b.length:Int)).toNat=p.b.length:=by omega
  rw [e,List.take_length,List.drop_length,List.take_of_length_le (by omega),List.drop_eq_nil_of_le (by omega)]
  exact ⟨rfl,rfl⟩
 ·have e:(min (8:Int) (p.b.length:Int)).toNat=8:=by omega
  rw [e]
  exact ⟨rfl,rfl⟩
theorem qzb_ {m m':MachS} {i:Nat} {els:List V} (h:FocOK m i els) (hg:m'.g=m.g) (hf:m'.f=m.f) (hn:m'.p.length=m.p.length) (hq:m'.pipes.length=m.pipes.length) (hgot:(pr m' i).got=(pr m i).got) (hout:(pr m' i).out=(pr m i).out) (hr:∀ p∈m'.pipes,p.b.length≤400000000):FocOK m' i els:=by
 refine ⟨by rw [hg];exact h.g,by rw [hf];exact h.f,by rw [hg,hn];exact h.np,by rw [hg,hq];exact h.nq,by rw [hg];exact h.lt,by rw [hg];exact h.nl,by rw [hg,hgot];exact h.got,by rw [hg,hout];exact h.out,hr,h.pe,fun b hb=>?_⟩
 rw [hgot,hout] at hb
 exact h.big b hb
theorem q9l_ {p:PipeS} (h:qi_ p=0) (n:Nat):qi_ ⟨p.b.drop n,p.room,p.closed,p.shut⟩=0:=by
 unfold qi_ at h ⊢
 dsimp only
 have hl:(p.b.drop n).length≤p.b.length:=by rw [List.length_drop];omega
 by_cases h1:p.room<0∨1000<p.room
 ·rw [if_pos h1] at h;cases h
 ·rw [if_neg h1] at h ⊢
  by_cases h2:(0<p.room∧p.room<(p.b.length:Int))∨40000<p.b.length
  ·rw [if_pos h2] at h;cases h
  ·rw [if_neg h2] at h
   rw [if_neg (by omega)]
   by_cases h3:p.shut=true∧p.b≠[]
   ·rw [if_pos h3] at h;cases h
   ·rw [if_neg (fun h4=>h3 ⟨h4.1,fun e=>h4.2 (by rw [e];simp)⟩)]
theorem qtb_:qb_ Tryz.prog 124=true:=by kernel_rfl
def q13_:qn_:=fun args rows K=>∃ (m:MachS) (i:Nat) (els:List V),args=[.ptr 0 0 0,.int .i64 i]∧FocOK m i els∧((∀ q∈m.pipes,qi_ q=0)∧0≤(pr m i).pos∧(nI m.g i=0∨(pr m i).pos<(nI m.g i:Int))∧(pr m i).got.flatten.length+8≤400000000∧m.sunk.length≤500000000)∧rows=focR m i els∧(∀ m' ex,wx_ m i=some m'→K (.lit true) (focR m' i els++ex))∧(∀ ex,wx_ m i=none→K (.lit false) (focR m i els++ex))
noncomputable def q15_:List (Nat × Spec):=[(95,qb3_),(164,q8q_)]
noncomputable def q14_:List (Nat × FnI):=[(163,{ fn:=Tryz.f163,spec:=some qpi_ }),(165,{ fn:=Tryz.f165,spec:=some qxw_ })]
noncomputable def qqp_:List (Nat × qn_):=[]
theorem za2_:EnvOK ⟨Tryz.prog,tys,q15_,q14_,qqp_,[]⟩:=qs_ qt_ tys0 (.cons qc5_ qc6_ (.cons za5_ za6_ .nil)) (.told qi8_ rfl qhh_ (.told q4b_ rfl qt1_ .nil)) .nil rfl
theorem qwi_:q1_ Tryz.prog 124 q13_:=by
 refine xm_ za2_ 6 qtb_ (fi:={fn:=Tryz.f124,hooks:=[2,3,8,12],draws:=[(1,[0,1,3,7,0,31,0,64,192,448,960,0,4032,8128,0,16447,65535]),(5,[0,1,3,7,0,31,0,64,192,448,1023,2047]),(11,[0,1,3,7,0,0,63,127]),(7,[0,1,3,7,0,16,48,127])]}) ⟨Tryz.func124,by kernel_rfl,by kernel_rfl⟩ ?_
 rintro args rows K ⟨m,i,els,rfl,h,⟨hq,hp0,hp1,hsz,hsk⟩,rfl,hT,hF⟩
 have hei:(els.set i (q6_ (pr m i)))[i]?=some (q6_ (pr m i)):=List.getElem?_set_self (by rw [h.nl];exact h.lt)
 have hel:(els.set i (q6_ (pr m i))).length=m.g.length:=by rw [List.length_set,h.nl]
 have hpe:=h.pe
 have hgf:=gf_of h.g
 have hnd:ndG m.g i=m.g[i]'(h.lt):=xb_ h.lt
 have hmp:i<m.p.length:=by rw [h.np];exact h.lt
 have hni:nI m.g i=(ndG m.g i).ins.length:=rfl
 unfold focR
 conv=>whnf
 refine ql_ [0,1] (σ:=Unit) (fun _=>[(5,.ptr 2 i 0),(6,.ptr 5 0 0)]) (fun _=>[.box [.sl qh_ m.g,.sl qq_ m.f,.own 1,.own 2,.sl qd_ m.sunk],.row 4 (m.pipes.map qk_),.rowq 5 (els.set i (q6_ (pr m i))),.row 1 ((pr m i).got.map blV),.row 1 ((pr m i).out.map blV),.box (qh_ (ndG m.g i)).cells]) (fun _=>True) ?_
 conv=>whnf
 refine ⟨?_,fun _ _=>?_⟩
 ·conv=>whnf
  repeat' first|exact True.intro|refine ⟨_,⟨rfl,rfl⟩,?_⟩|refine And.intro (a:=qj_ _ _ _ _ _ _ _ _) ?_ ?_|fail
  conv=>whnf
  apply Exists.intro
  apply And.intro
  ·repeat' first|refine ⟨_,rfl,?_,rfl,?_⟩|refine ⟨rfl,?_⟩|fail
   ·rw [hel];exact h.lt
   ·exact rfl
  conv=>whnf
  refine ⟨trivial,?_⟩
  conv=>whnf
  repeat' first|exact True.intro|refine ⟨_,⟨rfl,rfl⟩,?_⟩|refine ⟨_,_,⟨rfl,rfl⟩,?_⟩|refine And.intro (a:=qx_ _ _ _ _ _ _) ?_ ?_|refine And.intro (a:=qj_ _ _ _ _ _ _ _ _) ?_ ?_|refine ⟨⟨rfl,rfl⟩,?_⟩|refine ⟨_,⟨_,rfl,?_,rfl,rfl,rfl⟩,?_⟩|fail
  conv=>whnf
  skip
  ·exact h.lt
  ·conv=>whnf
   refine ⟨?_,?_⟩
   ·conv=>whnf
    refine ⟨rfl,i,rfl,by rw [hel];exact h.lt,?_⟩
    exact ⟨rfl,rfl⟩
   ·conv=>whnf
    repeat' first|exact True.intro|refine ⟨⟨rfl,rfl⟩,?_⟩|fail
    all_goals done
  conv=>whnf
  rw [hnd]
  exact ⟨(),(by (refine qf_ [some 0,some 1,some 2,some 3,some 4,some 5] rfl rfl ?_ ?_<;>(repeat' (first|exact qw_ hpe rfl rfl|exact True.intro|exact rfl|exact Or.inl rfl|exact Or.inr rfl|refine And.intro ?_ ?_|fail)))),trivial⟩
 conv=>whnf
 refine ql_ [0,1,5] (σ:=Bool) (fun s=>match s with|true=>[(28,.bool (decide (((ndG m.g i).ins.length:Int)=0)))]|false=>[(28,.bool (decide (((ndG m.g i).ins.length:Int)=0))),(6,.ptr 5 0 0)]) (fun s=>match s with|true=>[.box [.sl qh_ m.g,.sl qq_ m.f,.own 1,.own 2,.sl qd_ m.sunk],.row 4 (m.pipes.map qk_),.rowq 5 (els.set i (q6_ (pr m i))),.row 1 ((pr m i).got.map blV),.row 1 ((pr m i).out.map blV)]|false=>[.box [.sl qh_ m.g,.sl qq_ m.f,.own 1,.own 2,.sl qd_ m.sunk],.row 4 (m.pipes.map qk_),.rowq 5 (els.set i (q6_ (pr m i))),.row 1 ((pr m i).got.map blV),.row 1 ((pr m i).out.map blV),.box (qh_ (ndG m.g i)).cells]) (fun s=>s=decide (nI m.g i=0)) ?_
 conv=>whnf
 refine ⟨?_,fun s hs=>?_⟩
 ·conv=>whnf
  repeat' first|(refine fun (hl:_≤MAXL)=>?_)|fail
  by_cases h0:nI m.g i=0
  ·exact ⟨true,(by (refine qf_ [some 0,some 1,some 2,some 3,some 4] rfl rfl ?_ ?_<;>(repeat' (first|exact qw_ hpe rfl rfl|exact True.intro|exact rfl|exact Or.inl rfl|exact Or.inr rfl|refine And.intro ?_ ?_|fail)))),by simp [h0]⟩
  ·exact ⟨false,(by (refine qf_ [some 0,some 1,some 2,some 3,some 4,some 5] rfl rfl ?_ ?_<;>(repeat' (first|exact qw_ hpe rfl rfl|exact True.intro|exact rfl|exact Or.inl rfl|exact Or.inr rfl|refine And.intro ?_ ?_|fail)))),by simp [h0]⟩
 cases s
 rotate_left
 ·have h0:nI m.g i=0:=of_decide_eq_true hs.symm
  conv=>whnf
  repeat' first|exact True.intro|(refine fun (b:Bool) hb=>?_;cases b<;>first|exact absurd hb (by decide)|exact nfl hb|exact nfr hb|skip)|refine ⟨_,⟨rfl,rfl⟩,?_⟩|refine And.intro (a:=qj_ _ _ _ _ _ _ _ _) ?_ ?_|fail
  ·exact absurd (by omega) (of_decide_eq_false (by assumption:decide (((ndG m.g i).ins.length:Int)=0)=false))
  conv=>whnf
  refine ⟨m,i,els,rfl,h,by omega,rfl,fun ex=>?_⟩
  conv=>whnf
  refine hT _ ex ?_
  unfold wx_
  dsimp only
  rw [if_pos h0]
 have h0:¬ nI m.g i=0:=of_decide_eq_false hs.symm
 have hp1:(pr m i).pos<(nI m.g i:Int):=hp1.resolve_left h0
 obtain ⟨k,hk⟩:∃ k:Nat,(pr m i).pos=k:=⟨(pr m i).pos.toNat,by omega⟩
 have hkt:(pr m i).pos.toNat=k:=by omega
 have hin:insB m.g i+k<(qr_ m.g).length:=by
  have h1:=x4_ h.lt
  have h2:=y7_ (N:=m.g) (i:=i+1) (j:=m.g.length) h.lt (Nat.le_refl _)
  rw [yi_] at h2
  omega
 have hsm:=z0_ h.g
 have hiq:insB m.g i+k<m.pipes.length:=by rw [h.nq];exact hin
 have hgq:(m.pipes.map qk_)[insB m.g i+k]?=some (qk_ (qu m (insB m.g i+k))):=by
  rw [List.getElem?_map,List.getElem?_eq_getElem hiq]
  unfold qu
  rw [List.getD_eq_getElem?_getD,List.getElem?_eq_getElem hiq]
  rfl
 have hqc:qi_ (qu m (insB m.g i+k))=0:=by
  unfold qu
  rw [List.getD_eq_getElem?_getD,List.getElem?_eq_getElem hiq]
  exact hq _ (List.getElem_mem hiq)
 conv=>whnf
 repeat' first|exact True.intro|(refine fun (b:Bool) hb=>?_;cases b<;>first|exact absurd hb (by decide)|exact nfl hb|exact nfr hb|skip)|refine ⟨_,⟨rfl,rfl⟩,?_⟩|refine And.intro (a:=qj_ _ _ _ _ _ _ _ _) ?_ ?_|fail
 rotate_left
 ·exact absurd (of_decide_eq_true (by assumption:decide (((ndG m.g i).ins.length:Int)=0)=true)) (by omega)
 conv=>whnf
 apply Exists.intro
 apply And.intro
 ·refine ⟨m.g,i,rfl,⟨Nat.le_of_lt h.lt,hsm⟩,?_⟩
  exact ⟨rfl,rfl⟩
 conv=>whnf
 repeat' first|refine ⟨_,⟨rfl,rfl⟩,?_⟩|fail
 conv=>whnf
 apply Exists.intro
 apply And.intro
 ·conv=>whnf
  refine ⟨_,hei,?_⟩
  repeat' first|refine ⟨rfl,?_⟩|fail
  exact rfl
 conv=>whnf
 refine ⟨trivial,?_⟩
 conv=>whnf
 repeat' first|refine ⟨_,⟨rfl,rfl⟩,?_⟩|refine ⟨_,And.intro (a:=I64 _) ?_ ⟨rfl,rfl⟩,?_⟩|refine ⟨rfl,?_⟩|fail
 ·rw [hk];unfold I64;omega
 conv=>whnf
 refine ⟨insB m.g i+k,by rw [hk];omega,by rw [List.length_map];exact hiq,?_⟩
 skip
 refine ⟨_,hgq,?_⟩
 repeat' first|(refine fun (b:Bool) hb=>?_;cases b<;>first|exact absurd hb (by decide)|exact nfl hb|exact nfr hb|skip)|(refine fun (hl:_≤MAXL)=>?_)|refine ⟨rfl,?_⟩|fail
 ·
  have hb0:(qu m (insB m.g i+k)).b=[]:=by
   have h:=of_decide_eq_false (by assumption:decide (0<((qu m (insB m.g i+k)).b.length:Int))=false)
   exact List.length_eq_zero_iff.1 (by omega)
  refine ⟨insB m.g i+k,by rw [hk];omega,by rw [List.length_map];exact hiq,?_⟩
  skip
  refine ⟨_,hgq,?_⟩
  repeat' first|(refine fun (b:Bool) hb=>?_;cases b<;>first|exact absurd hb (by decide)|exact nfl hb|exact nfr hb|skip)|fail
  rotate_left
  ·have hcl:(qu m (insB m.g i+k)).closed=false:=by simpa using ‹(!(qu m (insB m.g i+k)).closed)=true›
   conv=>whnf
   refine hF [.box (qh_ (ndG m.g i)).cells] ?_
   unfold wx_
   dsimp only
   rw [hkt,if_neg h0,if_neg (by rw [hb0];simp),if_pos hcl]
  have hcl:¬ (qu m (insB m.g i+k)).closed=false:=by
   have:=‹(!(qu m (insB m.g i+k)).closed)=false›
   simpa using this
  conv=>whnf
  refine ⟨_,hei,?_⟩
  repeat' first|refine And.intro (a:=I64 _) ?_ ?_|fail
  ·rw [hk];unfold I64;omega
  refine ⟨_,hei,?_⟩
  have hnext:(els.set i (q6_ (pr m i))).set i (.agg [.own 3,.int .i64 ((pr m i).pos+1),.own 4,.bool (pr m i).read,.bool (pr m i).over])=els.set i (q6_ (z8_ (pr m i))):=by rw [List.set_set];rfl
  conv=>whnf
  refine ql_ [0,1] (σ:=Unit) (fun _=>[(57,.bool (decide ((pr m i).pos+1=((ndG m.g i).ins.length:Int))))]) (fun _=>[.box [.sl qh_ m.g,.sl qq_ m.f,.own 1,.own 2,.sl qd_ m.sunk],.row 4 (m.pipes.map qk_),.rowq 5 (els.set i (q6_ (z8_ (pr m i)))),.row 1 ((pr m i).got.map blV),.row 1 ((pr m i).out.map blV)]) (fun _=>True) ?_
  conv=>whnf
  refine ⟨?_,fun _ _=>?_⟩
  ·conv=>whnf
   repeat' first|refine ⟨_,⟨rfl,rfl⟩,?_⟩|fail
   conv=>whnf
   apply Exists.intro
   apply And.intro
   ·conv=>whnf
    refine ⟨_,List.getElem?_set_self (by rw [hel];exact h.lt),?_⟩
    repeat' first|refine ⟨rfl,?_⟩|fail
    exact rfl
   conv=>whnf
   refine ⟨trivial,?_⟩
   conv=>whnf
   repeat' first|exact True.intro|refine ⟨_,⟨rfl,rfl⟩,?_⟩|refine ⟨_,(fun _=>⟨rfl,rfl⟩),?_⟩|refine And.intro (a:=qj_ _ _ _ _ _ _ _ _) ?_ ?_|fail
   conv=>whnf
   rw [hnext]
   exact ⟨(),(by (refine qf_ [some 0,some 1,some 2,some 3,some 4] rfl rfl ?_ ?_<;>(repeat' (first|exact qw_ hpe rfl rfl|exact True.intro|exact rfl|exact Or.inl rfl|exact Or.inr rfl|refine And.intro ?_ ?_|fail)))),trivial⟩
  have hpn:pr (setP m i (z8_ (pr m i))) i=z8_ (pr m i):=by rw [xe_ hmp,if_pos rfl]
  have hFn:FocOK (setP m i (z8_ (pr m i))) i els:=qzb_ h rfl rfl (by show (m.p.set i _).length=_;rw [List.length_set]) rfl (by rw [hpn];rfl) (by rw [hpn];rfl) h.room
  have hrow:[.box [.sl qh_ m.g,.sl qq_ m.f,.own 1,.own 2,.sl qd_ m.sunk],.row 4 (m.pipes.map qk_),.rowq 5 (els.set i (q6_ (z8_ (pr m i)))),.row 1 ((pr m i).got.map blV),.row 1 ((pr m i).out.map blV)]=focR (setP m i (z8_ (pr m i))) i els:=(xj_ hmp).symm
  conv=>whnf
  repeat' first|(refine fun (b:Bool) hb=>?_;cases b<;>first|exact absurd hb (by decide)|exact nfl hb|exact nfr hb|skip)|fail
  ·have hne:¬ (pr m i).pos+1=(nI m.g i:Int):=of_decide_eq_false (by assumption:decide ((pr m i).pos+1=((ndG m.g i).ins.length:Int))=false)
   conv=>whnf
   have hfin:=hT (setP m i (z8_ (pr m i))) [] (by
    unfold wx_
    dsimp only
    rw [hkt,if_neg h0,if_neg (by rw [hb0];simp),if_neg hcl,if_neg hne])
   rw [←hrow] at hfin
   exact hfin
  ·have hne:(pr m i).pos+1=(nI m.g i:Int):=of_decide_eq_true (by assumption:decide ((pr m i).pos+1=((ndG m.g i).ins.length:Int))=true)
   conv=>whnf
   refine ⟨setP m i (z8_ (pr m i)),i,els,rfl,hFn,?_,hrow,fun ex=>?_⟩
   ·rw [hpn]
    show (pr m i).got.flatten.length≤500000000
    omega
   conv=>whnf
   refine hT _ ex ?_
   unfold wx_
   dsimp only
   rw [hkt,if_neg h0,if_neg (by rw [hb0];simp),if_neg hcl,if_pos hne]
 ·
  have hbn:(qu m (insB m.g i+k)).b≠[]:=by
   have h:=of_decide_eq_true (by assumption:decide (0<((qu m (insB m.g i+k)).b.length:Int))=true)
   intro e
   rw [e] at h
   exact absurd h (by decide)
  obtain ⟨r1,r2⟩:=zd2_ hqc
  refine ⟨insB m.g i+k,by rw [hk];omega,by rw [List.length_map];exact hiq,?_⟩
  skip
  refine ⟨_,hgq,?_⟩
  skip
  refine ⟨qu m (insB m.g i+k),8,rfl,?_⟩
  skip
  conv=>whnf
  refine ql_ [0,1,9] (σ:=Unit) (fun _=>[]) (fun _=>[.box [.sl qh_ m.g,.sl qq_ m.f,.own 1,.own 2,.sl qd_ m.sunk],.row 4 ((m.pipes.set (insB m.g i+k) (zv_ (qu m (insB m.g i+k)) 8).1).map qk_),.rowq 5 (els.set i (q6_ (pr m i))),.row 1 ((pr m i).got.map blV),.row 1 ((pr m i).out.map blV)]) (fun _=>True) ?_
  conv=>whnf
  refine ⟨?_,fun _ _=>?_⟩
  ·conv=>whnf
   repeat' first|exact True.intro|refine ⟨_,⟨rfl,rfl⟩,?_⟩|refine And.intro (a:=qj_ _ _ _ _ _ _ _ _) ?_ ?_|fail
   conv=>whnf
   apply Exists.intro
   apply And.intro
   ·refine ⟨rfl,insB m.g i+k,by rw [hk];omega,by rw [List.length_map];exact hiq,?_⟩
    exact ⟨rfl,rfl⟩
   conv=>whnf
   refine ⟨trivial,?_⟩
   conv=>whnf
   apply Exists.intro
   apply Exists.intro
   apply And.intro
   ·conv=>whnf
    refine ⟨by rw [List.length_map];exact hiq,?_⟩
    exact ⟨rfl,rfl⟩
   conv=>whnf
   repeat' first|exact True.intro|refine And.intro (a:=qx_ _ _ _ _ _ _) ?_ ?_|fail
   conv=>whnf
   rw [List.map_set]
   exact ⟨(),(by (refine qf_ [some 0,some 1,some 2,some 3,some 4] rfl rfl ?_ ?_<;>(repeat' (first|exact qw_ hpe rfl rfl|exact True.intro|exact rfl|exact Or.inl rfl|exact Or.inr rfl|refine And.intro ?_ ?_|fail)))),trivial⟩
  have hqx:setQ m (insB m.g i+k) ⟨(qu m (insB m.g i+k)).b.drop 8,(qu m (insB m.g i+k)).room,(qu m (insB m.g i+k)).closed,(qu m (insB m.g i+k)).shut⟩=setQ m (insB m.g i+k) (zv_ (qu m (insB m.g i+k)) 8).1:=by rw [r1]
  have hqall:∀ p∈m.pipes.set (insB m.g i+k) (zv_ (qu m (insB m.g i+k)) 8).1,qi_ p=0:=fun p hp=>by
   rcases List.mem_or_eq_of_mem_set hp with hp|rfl
   ·exact hq p hp
   ·rw [r1];exact q9l_ hqc 8
  have hFq:FocOK (setQ m (insB m.g i+k) (zv_ (qu m (insB m.g i+k)) 8).1) i els:=qzb_ h rfl rfl rfl List.length_set rfl rfl fun p hp=>by
   have:=xq_ ((z9_ p).trans (hqall p hp))
   omega
  have hb8:(zv_ (qu m (insB m.g i+k)) 8).2.1.length≤8:=by rw [r2,List.length_take];omega
  conv=>whnf
  refine ⟨setQ m (insB m.g i+k) (zv_ (qu m (insB m.g i+k)) 8).1,i,els,(zv_ (qu m (insB m.g i+k)) 8).2.1,rfl,hFq,⟨hqall,hp0,hp1,?_,hsk⟩,rfl,fun ex=>?_⟩
  ·show (pr m i).got.flatten.length+_≤400000000
   omega
  conv=>whnf
  refine hT _ ex ?_
  unfold wx_
  dsimp only
  rw [hkt,if_neg h0,if_pos hbn,hqx,r2]
end Gv
namespace Gv
variable [Glob] [Laid]
def xa_ (p:PipeS):PipeS × Int:=if zp_ p≠0 then (w6_,zp_ p) else if p.closed=true then (w6_,7) else ({p with closed:=true},0)
theorem q4m_:qb_ Tryz.prog 123=true:=by kernel_rfl
def qye_:Spec:=fun args K=>∃ p,args=[qk_ p]∧K (.tup [qk_ (xa_ p).1,.int .i64 (xa_ p).2])
noncomputable def qyg_:List (Nat × Spec):=[(21,qcu_),(66,yg_),(214,y5_)]
noncomputable def qyf_:List (Nat × FnI):=[(213,{fn:=Tryz.f213,hooks:=[],draws:=[(5,[0,0,2,6,14,0,32,96,224,480,1022,2047,4095]),(7,[0,0,2,6,14,0,0,96,254,510,1023,2047,4095])]})]
noncomputable def qow_:List (Nat × qn_):=[]
theorem q9c_:EnvOK ⟨Tryz.prog,tys,qyg_,qyf_,qow_,[]⟩:=qs_ qt_ tys0 (.cons qbr_ qbs_ (.cons x1_ x2_ (.cons yz_ y0_ .nil))) (.cons (by kernel_rfl) ⟨Tryz.func213,by kernel_rfl,by kernel_rfl⟩ .nil) .nil rfl
theorem q4n_:Pure Tryz.prog 123 qye_:=by
 refine qp_ q9c_ 6 (fi:={fn:=Tryz.f123,hooks:=[],draws:=[]}) ⟨Tryz.func123,by kernel_rfl,by kernel_rfl⟩ ?_
 rintro _ K ⟨p,rfl,hK⟩
 replace hK:∀ r,r=.tup [qk_ (xa_ p).1,.int .i64 (xa_ p).2]→K r:=fun r h=>h ▸ hK
 refine ⟨p,rfl,?_⟩
 repeat' first|(refine fun (b:Bool) hb=>?_;cases b<;>first|exact absurd hb (by decide)|exact nfl hb|exact nfr hb|skip)|refine ⟨UInt8,qd_,?_⟩|fail
 ·have hc:zp_ p=0:=by grind
  have hs:=xq_ hc
  refine ⟨_,rfl,by omega,?_⟩
  refine hK _ ?_
  grind [xa_,qk_]
 all_goals (refine hK _ ?_;grind [xa_,w6_,qk_])
end Gv
