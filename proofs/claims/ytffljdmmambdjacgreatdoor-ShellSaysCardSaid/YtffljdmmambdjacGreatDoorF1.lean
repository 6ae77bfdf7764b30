/- What functions of the program come to, part 1: in every world; the conditions stand in each theorem. -/
import Derived.Test.YtffljdmmambdjacGreatDoorVa
import Derived.Test.YtffljdmmambdjacGreatDoorVb
import Derived.Test.YtffljdmmambdjacGreatDoorVc
import Derived.Test.YtffljdmmambdjacGreatDoorVd
import Derived.Test.YtffljdmmambdjacGreatDoorVe
import Derived.Test.YtffljdmmambdjacGreatDoorVf
import Derived.Test.YtffljdmmambdjacGreatDoorProg
import Derived.Test.YtffljdmmambdjacGreatDoorSh
set_option linter.unusedVariables false
set_option linter.unusedSectionVars false
set_option linter.unusedSimpArgs false
open Go Go.Proofs Gw Gp
namespace Gv
variable [Glob]
noncomputable def tys : List (Nat × TI) := [(2, ⟨(.int .i64 0), 1, 8, false, (.int .i64)⟩),
    (3,⟨(.int .i64 0),1,8,false,(.int .i64)⟩),
    (4,⟨(.bool false),1,1,false,.bool⟩),
    (5,⟨(.int .u8 0),1,1,false,(.int .u8)⟩),
    (9,⟨(.string ⟨#[]⟩),1,16,false,.str⟩),
    (20,⟨.nilIface,1,16,false,.iface⟩),
    (22,⟨(.slice none 0 0),1,24,false,(.slice 41)⟩),
    (24,⟨(.agg #[(.slice none 0 0)]),1,24,true,(.struct [(22,0)])⟩),
    (25,⟨(.slice none 0 0),1,24,false,(.slice 56)⟩),
    (26,⟨(.slice none 0 0),1,24,false,(.slice 50)⟩),
    (27,⟨(.slice none 0 0),1,24,false,(.slice 44)⟩),
    (28,⟨(.slice none 0 0),1,24,false,(.slice 5)⟩),
    (30,⟨(.agg #[(.slice none 0 0),(.slice none 0 0),(.slice none 0 0),(.slice none 0 0),(.slice none 0 0)]),5,120,true,(.struct [(24,0),(25,1),(26,2),(27,3),(28,4)])⟩),
    (31,⟨(.int .i64 0),1,8,false,(.int .i64)⟩),
    (38,⟨(.agg #[(.int .i64 0),(.string ⟨#[]⟩),(.int .i64 0)]),3,32,true,(.struct [(3,0),(9,1),(3,2)])⟩),
    (39,⟨(.slice none 0 0),1,24,false,(.slice 47)⟩),
    (41,⟨(.agg #[(.int .i64 0),(.string ⟨#[]⟩),(.int .i64 0),(.string ⟨#[]⟩),(.int .i64 0),(.int .i64 0),(.int .i64 0),(.slice none 0 0)]),8,96,true,(.struct [(3,0),(9,1),(38,2),(3,5),(3,6),(39,7)])⟩),
    (42,⟨(.slice none 0 0),1,24,false,(.slice 28)⟩),
    (44,⟨(.agg #[(.slice none 0 0),(.int .i64 0),(.slice none 0 0),(.bool false),(.bool false)]),5,64,true,(.struct [(42,0),(3,1),(42,2),(4,3),(4,4)])⟩),
    (45,⟨.nilFunc,1,8,false,.other⟩),
    (47,⟨(.agg #[(.int .i64 0),(.int .i64 0)]),2,16,true,(.struct [(3,0),(3,1)])⟩),
    (48,⟨.nilFunc,1,8,false,.other⟩),
    (50,⟨(.agg #[(.slice none 0 0),(.int .i64 0),(.bool false),(.bool false)]),4,40,true,(.struct [(28,0),(3,1),(4,2),(4,3)])⟩),
    (51,⟨.nilFunc,1,8,false,.other⟩),
    (53,⟨(.slice none 0 0),1,24,false,(.slice 3)⟩),
    (56,⟨(.agg #[(.string ⟨#[]⟩),(.slice none 0 0)]),2,40,true,(.struct [(9,0),(28,1)])⟩),
    (57,⟨(.slice none 0 0),1,24,false,(.slice 31)⟩),
    (65,⟨(.slice none 0 0),1,24,false,(.slice 9)⟩),
    (66,⟨(.slice none 0 0),1,24,false,(.slice 38)⟩),
    (68,⟨(.agg #[(.slice none 0 0),(.slice none 0 0),(.string ⟨#[]⟩)]),3,64,true,(.struct [(65,0),(66,1),(9,2)])⟩),
    (74,⟨(.slice none 0 0),1,24,false,(.slice 68)⟩),
    (95,⟨(.pointer none),1,8,false,.other⟩),
    (105,⟨.nilFunc,1,8,false,.other⟩),
    (110,⟨(.slice none 0 0),1,24,false,(.slice 42)⟩),
    (114,⟨(.pointer none),1,8,false,.other⟩),
    (116,⟨(.agg #[(.slice none 0 0),(.slice none 0 0)]),2,48,true,(.struct [(24,0),(39,1)])⟩),
    (124,⟨.nilFunc,1,8,false,.other⟩),
    (130,⟨.nilFunc,1,8,false,.other⟩),
    (139,⟨.nilFunc,1,8,false,.other⟩),
    (142,⟨(.map none),1,8,false,(.map 47 4)⟩),
    (145,⟨(.map none),1,8,false,(.map 47 3)⟩),
    (148,⟨(.pointer none),1,8,false,.other⟩),
    (149,⟨(.pointer none),1,8,false,.other⟩),
    (150,⟨.nilFunc,1,8,false,.other⟩),
    (153,⟨(.pointer none),1,8,false,.other⟩),
    (158,⟨.nilFunc,1,8,false,.other⟩),
    (167,⟨(.slice none 0 0),1,24,false,(.slice 65)⟩),
    (172,⟨.nilFunc,1,8,false,.other⟩),
    (174,⟨.nilFunc,1,8,false,.other⟩),
    (186,⟨(.int .u64 0),1,8,false,(.int .u64)⟩),
    (199,⟨(.map none),1,8,false,(.map 3 9)⟩),
    (237,⟨.nilIface,1,16,false,.iface⟩),
    (267,⟨(.pointer none),1,8,false,.other⟩),
    (272,⟨(.int .i64 0),1,8,false,(.int .i64)⟩),
    (295,⟨(.int .u64 0),1,8,false,(.int .u64)⟩)]
theorem mixed0 : (Tryz.prog).follows .mixedOrders = true:=by kernel_rfl
theorem tys0 : TysOK Tryz.prog tys:=tys_ok (by kernel_rfl)
class Laid : Prop where
  maxlen : ∀ w,Sub Glob.mem w → ∃ n,w.cell? ⟨0,0,none⟩ = some (.int .i64 n)
class Nums : Prop where
  pow10 : ∀ w, Sub Glob.mem w → Lib.TabIs Tryz.prog w "internal/strconv.uint64pow10" .u64 Lib.pow10Tab
class Errs : Prop where
  syn : ∀ w, Sub Glob.mem w → ∃ tp p, w.var? Tryz.prog "strconv.ErrSyntax" = some #[.iface tp p]
  rng : ∀ w, Sub Glob.mem w → ∃ tp p, w.var? Tryz.prog "strconv.ErrRange" = some #[.iface tp p]
end Gv
namespace Gv
variable [Glob] [Laid]
theorem word1_ca : callable Tryz.prog 135 = true:=by kernel_rfl
def word1_S : Spec:=fun args K=>∃ (c : UInt8),args = [byteV c] ∧ K (.bool (!wordByte c))
noncomputable def word1_lib : List (Nat × Spec):=[]
noncomputable def word1_fns : List (Nat × FnI):=[]
noncomputable def word1_prims : List (Nat × PSpec):=[]
theorem word1_E : EnvOK ⟨Tryz.prog,tys,word1_lib,word1_fns,word1_prims,[]⟩:=env_ok mixed0 tys0 .nil .nil .nil rfl
set_option maxHeartbeats 4000000 in
theorem word1_ok : Pure Tryz.prog 135 word1_S:=by
  refine pure_by word1_E 6 (fi:={fn:=Tryz.f135,hooks:=[],draws:=[]}) ⟨Tryz.func135,by kernel_rfl,by kernel_rfl⟩ ?_
  rintro _ K ⟨c,rfl,hK⟩
  replace hK : ∀ r,r = .bool (!wordByte c) → K r:=fun r h=>h ▸ hK
  repeat' first | (refine fun (b : Bool) hb=>?_; cases b <;> (first | exact absurd hb (by decide) | exact Bool.noConfusion (show true = false from hb) | exact Bool.noConfusion (show false = true from hb) | skip)) | fail
  all_goals (refine hK _ ?_; unfold wordByte; congr 1; grind)
end Gv
namespace Gv
variable [Glob] [Laid]
theorem word_ca : callable Tryz.prog 78 = true:=by kernel_rfl
def word_S : Spec:=fun args K=>∃ (s : Bs),args = [.str s] ∧ K (.bool (isWord s))
noncomputable def word_lib : List (Nat × Spec):=[(135,word1_S)]
noncomputable def word_fns : List (Nat × FnI):=[(134,{fn:=Tryz.f134,hooks:=[],draws:=[]}),(170,{fn:=Tryz.f170,hooks:=[],draws:=[]})]
noncomputable def word_prims : List (Nat × PSpec):=[]
theorem word_E : EnvOK ⟨Tryz.prog,tys,word_lib,word_fns,word_prims,[]⟩:=env_ok mixed0 tys0 (.cons word1_ca word1_ok .nil) (.cons (by kernel_rfl) ⟨Tryz.func134,by kernel_rfl,by kernel_rfl⟩ (.cons (by kernel_rfl) ⟨Tryz.func170,by kernel_rfl,by kernel_rfl⟩ .nil)) .nil rfl
set_option maxHeartbeats 4000000 in
theorem word_ok : Pure Tryz.prog 78 word_S:=by
  refine pure_by word_E 6 (fi:={fn:=Tryz.f78,hooks:=[],draws:=[]}) ⟨Tryz.func78,by kernel_rfl,by kernel_rfl⟩ ?_
  rintro _ K ⟨s,rfl,hK⟩
  replace hK : ∀ r,r = .bool (isWord s) → K r:=fun r h=>h ▸ hK
  repeat' first | (refine fun (b : Bool) hb=>?_; cases b <;> (first | exact absurd hb (by decide) | exact Bool.noConfusion (show true = false from hb) | exact Bool.noConfusion (show false = true from hb) | skip)) | (refine fun (hl : _ ≤ MAXL)=>?_) | refine And.intro (a:=_ ≤ 140737488355328) ?_ ?_ | refine Opt.a ?_ | fail
  · refine hK _ ?_
    have h : (!decide (s = [])) = false:=by assumption
    have : s = []:=by simpa using h
    subst this; rfl
  · refine hK _ ?_
    have h : decide ((s.length : Int) ≤ 12) = false:=by assumption
    have h2 : ¬ s.length ≤ 12:=by
      intro h3
      have : ((s.length : Int) ≤ 12):=by omega
      simp [this] at h
    simp [isWord,h2]
  · have h : decide ((s.length : Int) ≤ 12) = true:=by assumption
    have h2 : (s.length : Int) ≤ 12:=by simpa using h
    omega
  have hw : ∃ t : Bool,isWord s = t ∧ t = s.all wordByte:=by
    have h : (!decide (s = [])) = true:=by assumption
    have h1 : s ≠ []:=by simpa using h
    have h : decide ((s.length : Int) ≤ 12) = true:=by assumption
    have h2 : (s.length : Int) ≤ 12:=by simpa using h
    have h3 : s.length ≤ 12:=by omega
    exact ⟨s.all wordByte,by simp [isWord,h1,h3],rfl⟩
  obtain ⟨t,ht,hta⟩:=hw
  rw [ht] at hK
  conv=>whnf
  refine loop_live [0,1,7] (σ:=Nat) (fun i=>[(8,.int .i64 i)]) (fun _=>[]) (fun i=>i ≤ s.length ∧ (s.take i).all wordByte = true) (fun i=>s.length - i) 0 ?_
  conv=>whnf
  refine ⟨(by (refine wk_sel [] rfl rfl ?_ ?_ <;> (repeat' (first | exact True.intro | exact rfl | exact Or.inl rfl | exact Or.inr rfl | refine And.intro ?_ ?_ | fail)))),⟨Nat.zero_le _,rfl⟩,fun i hi=>?_⟩
  obtain ⟨hi,hI⟩:=hi
  repeat' first | (refine fun (b : Bool) hb=>?_; cases b <;> (first | exact absurd hb (by decide) | exact Bool.noConfusion (show true = false from hb) | exact Bool.noConfusion (show false = true from hb) | skip)) | refine ⟨_,rfl,?_,rfl,?_⟩ | fail
  · have e : s.take i = s:=List.take_of_length_le (by grind)
    rw [e] at hI
    refine hK _ ?_
    rw [hta,hI]
    rfl
  · grind
  have hi2 : i < s.length:=by grind
  refine ⟨s[i],rfl,?_⟩
  have hts : s.take (i + 1) = s.take i ++ [s[i]]:=List.take_succ_eq_append_getElem hi2
  repeat' first | (refine fun (b : Bool) hb=>?_; cases b <;> (first | exact absurd hb (by decide) | exact Bool.noConfusion (show true = false from hb) | exact Bool.noConfusion (show false = true from hb) | skip)) | refine And.intro (a:=I64 _) ?_ ?_ | fail
  · (first | omega | (unfold I64; omega) | (simp only [List.length_append,List.length_map,List.length_cons,List.length_nil,Nat.mul_one,Int.ofNat_eq_natCast] at *; omega) | (dsimp only at *; omega) | (unfold I64; dsimp only at *; omega) | (unfold I64; grind) | grind)
  · refine ⟨i + 1,(by (refine wk_sel [] rfl rfl ?_ ?_ <;> (repeat' (first | exact True.intro | exact rfl | exact Or.inl rfl | exact Or.inr rfl | refine And.intro ?_ ?_ | fail)))),⟨by omega,?_⟩,by omega⟩
    rw [hts,List.all_append,hI]
    grind
  · refine hK _ ?_
    have h1 : wordByte s[i] = false:=by grind
    have h2 : s.all wordByte = false:=by
      rw [List.all_eq_false]
      exact ⟨s[i],List.getElem_mem hi2,by simp [h1]⟩
    rw [hta,h2]
    simp
end Gv
namespace Gv
variable [Glob] [Laid]
theorem cfiles_ca : callable Tryz.prog 32 = true:=by kernel_rfl
def cfiles_S : Spec:=fun args K=>∃ l : List FileS,args = [.sl fileV l] ∧ K (.int .i64 (checkFiles l))
noncomputable def cfiles_lib : List (Nat × Spec):=[(78,word_S)]
noncomputable def cfiles_fns : List (Nat × FnI):=[]
noncomputable def cfiles_prims : List (Nat × PSpec):=[]
theorem cfiles_E : EnvOK ⟨Tryz.prog,tys,cfiles_lib,cfiles_fns,cfiles_prims,[]⟩:=env_ok mixed0 tys0 (.cons word_ca word_ok .nil) .nil .nil rfl
set_option maxHeartbeats 8000000 in
theorem cfiles_ok : Pure Tryz.prog 32 cfiles_S:=by
  refine pure_by cfiles_E 6 (fi:={fn:=Tryz.f32,hooks:=[],draws:=[(10,[0,1,3,7,7,23,63,127,255,7,519,2047,4095])]}) ⟨Tryz.func32,by kernel_rfl,by kernel_rfl⟩ ?_
  rintro _ K ⟨l,rfl,hK⟩
  replace hK : ∀ r,r = .int .i64 (checkFiles l) → K r:=fun r h=>h ▸ hK
  repeat' first | (refine fun (b : Bool) hb=>?_; cases b <;> (first | exact absurd hb (by decide) | exact Bool.noConfusion (show true = false from hb) | exact Bool.noConfusion (show false = true from hb) | skip)) | (refine fun (hl : _ ≤ MAXL)=>?_) | fail
  rotate_left
  · refine hK _ ?_
    have h:=of_decide_eq_true (by assumption : decide ((12 : Int) < (l.length : Int)) = true)
    unfold checkFiles
    rw [if_pos (by omega)]
  have h12 : ¬ 12 < l.length:=by
    have h:=of_decide_eq_false (by assumption : decide ((12 : Int) < (l.length : Int)) = false)
    omega
  have hcf : checkFiles l = filesGo none l:=by unfold checkFiles; rw [if_neg h12]
  rw [hcf] at hK
  conv=>whnf
  refine loop_live [0,8,9] (σ:=Nat) (fun i=>[(10,.int .i64 i)]) (fun i=>[]) (fun i=>i ≤ l.length ∧ filesGo (prevN l i) (l.drop i) = filesGo none l) (fun i=>l.length - i) 0 ?_
  conv=>whnf
  refine ⟨(by (refine wk_auto ?_; refine Sel4.mk rfl rfl ?_ ?_ <;> (repeat' (first | exact True.intro | exact rfl | exact Or.inl rfl | exact Or.inr rfl | refine And.intro ?_ ?_ | fail)))),⟨Nat.zero_le _,rfl⟩,fun i hi=>?_⟩
  obtain ⟨hi,hg⟩:=hi
  repeat' first | (refine fun (b : Bool) hb=>?_; cases b <;> (first | exact absurd hb (by decide) | exact Bool.noConfusion (show true = false from hb) | exact Bool.noConfusion (show false = true from hb) | skip)) | refine ⟨_,rfl,?_,rfl,?_⟩ | fail
  · have h:=of_decide_eq_false (by assumption : decide ((i : Int) < (l.length : Int)) = false)
    have e : l.drop i = []:=List.drop_eq_nil_of_le (by omega)
    rw [e] at hg
    conv=>whnf
    refine hK _ ?_
    rw [← hg]
    rfl
  · have h:=of_decide_eq_true (by assumption : decide ((i : Int) < (l.length : Int)) = true)
    show i < l.length
    omega
  have hlt : i < l.length:=by
    have h:=of_decide_eq_true (by assumption : decide ((i : Int) < (l.length : Int)) = true)
    omega
  rw [filesGo_at hlt] at hg
  refine ⟨l[i].name,rfl,?_⟩
  repeat' first | (refine fun (b : Bool) hb=>?_; cases b <;> (first | exact absurd hb (by decide) | exact Bool.noConfusion (show true = false from hb) | exact Bool.noConfusion (show false = true from hb) | skip)) | (refine fun (hl : _ ≤ MAXL)=>?_) | refine And.intro (a:=I64 _) ?_ ?_ | refine ⟨_,⟨rfl,rfl⟩,?_⟩ | refine ⟨_,And.intro (a:=I64 _) ?_ ⟨rfl,rfl⟩,?_⟩ | fail
  · unfold I64; omega
  · have h1 : isWord l[i].name = true := by
      have h : (!isWord l[i].name) = false:=by assumption
      simpa using h
    have h2 : ¬ (4000 : Int) < (l[i].b.length : Int):=of_decide_eq_false (by assumption)
    have h3 : ¬ (0 : Int) < (i : Int):=of_decide_eq_false (by assumption)
    have e0 : i = 0:=by omega
    have h4 : notRise (prevN l i) l[i].name = false:=by
      have : prevN l i = none:=by unfold prevN; rw [if_pos e0]
      rw [this]; rfl
    rw [if_neg (by rw [h1]; decide),if_neg (by omega),if_neg (by rw [h4]; decide)] at hg
    exact ⟨i + 1,(by (refine wk_auto ?_; refine Sel4.mk rfl rfl ?_ ?_ <;> (repeat' (first | exact True.intro | exact rfl | exact Or.inl rfl | exact Or.inr rfl | refine And.intro ?_ ?_ | fail)))),⟨hlt,hg⟩,by omega⟩
  · unfold I64; omega
  · have h1 : isWord l[i].name = true := by
      have h : (!isWord l[i].name) = false:=by assumption
      simpa using h
    have h2 : ¬ (4000 : Int) < (l[i].b.length : Int):=of_decide_eq_false (by assumption)
    have h3 : (0 : Int) < (i : Int):=of_decide_eq_true (by assumption)
    have hp : prevN l i = some (l[i - 1]'(by omega)).name:=by
      unfold prevN
      rw [if_neg (by omega),List.getD_eq_getElem?_getD,List.getElem?_eq_getElem (by omega)]
      rfl
    rw [if_neg (by rw [h1]; decide),if_neg (by omega),hp] at hg
    conv=>whnf
    refine ⟨_,⟨i - 1,by omega,by omega,rfl,rfl,rfl⟩,?_⟩
    repeat' first | exact True.intro | (refine fun (b : Bool) hb=>?_; cases b <;> (first | exact absurd hb (by decide) | exact Bool.noConfusion (show true = false from hb) | exact Bool.noConfusion (show false = true from hb) | skip)) | refine And.intro (a:=I64 _) ?_ ?_ | refine ⟨_,⟨rfl,rfl⟩,?_⟩ | refine And.intro (a:=chkPast _ _ _ _ _ _ _ _) ?_ ?_ | fail
    · unfold I64; omega
    · have h4 : notRise (some (l[i - 1]'(by omega)).name) l[i].name = false := by
        have h : (!Op.bytesLess (l[i - 1]'(by omega)).name l[i].name) = false:=by assumption
        exact h
      rw [if_neg (by rw [h4]; decide)] at hg
      exact ⟨i + 1,(by (refine wk_auto ?_; refine Sel4.mk rfl rfl ?_ ?_ <;> (repeat' (first | exact True.intro | exact rfl | exact Or.inl rfl | exact Or.inr rfl | refine And.intro ?_ ?_ | fail)))),⟨hlt,hg⟩,by omega⟩
    · have h4 : notRise (some (l[i - 1]'(by omega)).name) l[i].name = true := by
        have h : (!Op.bytesLess (l[i - 1]'(by omega)).name l[i].name) = true:=by assumption
        exact h
      rw [if_pos h4] at hg
      conv=>whnf
      exact hK _ (by rw [← hg])
  · have h1 : isWord l[i].name = true := by
      have h : (!isWord l[i].name) = false:=by assumption
      simpa using h
    have h2 : (4000 : Int) < (l[i].b.length : Int):=of_decide_eq_true (by assumption)
    rw [if_neg (by rw [h1]; decide),if_pos (by omega)] at hg
    conv=>whnf
    exact hK _ (by rw [← hg])
  · have h1 : isWord l[i].name = false := by
      have h : (!isWord l[i].name) = true:=by assumption
      simpa using h
    rw [if_pos h1] at hg
    conv=>whnf
    exact hK _ (by rw [← hg])
end Gv
namespace Gv
variable [Glob] [Laid]
theorem placeF_ca : callable Tryz.prog 79 = true:=by kernel_rfl
def placeF_S : Spec:=fun args K=>∃ (l : List FileS) (n : Bs),args = [.sl fileV l,.str n] ∧ K (.tup [.int .i64 (placeI l n : Nat),.bool (isAt l n)])
noncomputable def placeF_lib : List (Nat × Spec):=[]
noncomputable def placeF_fns : List (Nat × FnI):=[(136,{fn:=Tryz.f136,hooks:=[],draws:=[]}),(137,{fn:=Tryz.f137,hooks:=[],draws:=[]})]
noncomputable def placeF_prims : List (Nat × PSpec):=[]
theorem placeF_E : EnvOK ⟨Tryz.prog,tys,placeF_lib,placeF_fns,placeF_prims,[]⟩:=env_ok mixed0 tys0 .nil (.cons (by kernel_rfl) ⟨Tryz.func136,by kernel_rfl,by kernel_rfl⟩ (.cons (by kernel_rfl) ⟨Tryz.func137,by kernel_rfl,by kernel_rfl⟩ .nil)) .nil rfl
set_option maxHeartbeats 8000000 in
theorem placeF_ok : Pure Tryz.prog 79 placeF_S:=by
  refine pure_by placeF_E 6 (fi:={fn:=Tryz.f79,hooks:=[],draws:=[(4,[0,0,0,6,14,30,0,126,1,511])]}) ⟨Tryz.func79,by kernel_rfl,by kernel_rfl⟩ ?_
  rintro _ K ⟨l,n,rfl,hK⟩
  replace hK : ∀ r,r = .tup [.int .i64 (placeI l n : Nat),.bool (isAt l n)] → K r:=fun r h=>h ▸ hK
  repeat' first | (refine fun (hl : _ ≤ MAXL)=>?_) | fail
  conv=>whnf
  refine loop_live [0,1,7] (σ:=Nat) (fun i=>[(8,.int .i64 i)]) (fun i=>[.box [.str n]]) (fun i=>i ≤ l.length ∧ ∀ j (h : j < l.length),j < i → notLess n l[j] = false) (fun i=>l.length - i) 0 ?_
  conv=>whnf
  refine ⟨(by (refine wk_auto ?_; refine Sel4.mk rfl rfl ?_ ?_ <;> (repeat' (first | exact True.intro | exact rfl | exact Or.inl rfl | exact Or.inr rfl | refine And.intro ?_ ?_ | fail)))),⟨Nat.zero_le _,fun j h h'=>by omega⟩,fun i hi=>?_⟩
  obtain ⟨hi,hn⟩:=hi
  repeat' first | exact True.intro | (refine fun (b : Bool) hb=>?_; cases b <;> (first | exact absurd hb (by decide) | exact Bool.noConfusion (show true = false from hb) | exact Bool.noConfusion (show false = true from hb) | skip)) | (refine fun (hl : _ ≤ MAXL)=>?_) | refine And.intro (a:=I64 _) ?_ ?_ | refine ⟨_,⟨rfl,rfl⟩,?_⟩ | refine And.intro (a:=chkPast _ _ _ _ _ _ _ _) ?_ ?_ | refine ⟨_,⟨_,rfl,?_,rfl,rfl,rfl⟩,?_⟩ | refine ⟨_,rfl,?_,rfl,?_⟩ | fail
  · have hge : ¬ (i : Int) < (l.length : Int):=of_decide_eq_false (by assumption)
    have ei : i = l.length:=by omega
    have hp : placeI l n = l.length:=place_end fun j hj=>hn j hj (by omega)
    skip
    refine hK _ ?_
    unfold isAt
    rw [hp,List.getElem?_eq_none (Nat.le_refl _)]
  · have h:=of_decide_eq_true (by assumption : decide ((i : Int) < (l.length : Int)) = true)
    show i < l.length
    omega
  · have hl0 : l.length ≤ MAXL:=by assumption
    unfold MAXL at hl0
    have h:=of_decide_eq_true (by assumption : decide ((i : Int) < (l.length : Int)) = true)
    unfold I64; omega
  · have hlt : i < l.length := by
      have h:=of_decide_eq_true (by assumption : decide ((i : Int) < (l.length : Int)) = true)
      omega
    have hx : notLess n l[i] = false:=by assumption
    refine ⟨i + 1,(by (refine wk_auto ?_; refine Sel4.mk rfl rfl ?_ ?_ <;> (repeat' (first | exact True.intro | exact rfl | exact Or.inl rfl | exact Or.inr rfl | refine And.intro ?_ ?_ | fail)))),⟨hlt,fun j hj hj2=>?_⟩,by omega⟩
    rcases Nat.lt_or_ge j i with h | h
    · exact hn j hj h
    · have : j = i:=by omega
      subst this
      exact hx
  · have h:=of_decide_eq_true (by assumption : decide ((i : Int) < (l.length : Int)) = true)
    show i < l.length
    omega
  · have hlt : i < l.length := by
      have h:=of_decide_eq_true (by assumption : decide ((i : Int) < (l.length : Int)) = true)
      omega
    have hx : notLess n l[i] = true:=by assumption
    have hp : placeI l n = i:=place_at hlt hx hn
    skip
    refine hK _ ?_
    unfold isAt
    rw [hp,List.getElem?_eq_getElem hlt]
end Gv
namespace Gv
variable [Glob] [Laid]
theorem cloneB_ca : callable Tryz.prog 66 = true:=by kernel_rfl
def cloneB_S : Spec:=fun args K=>∃ a : List UInt8,args = [.sl byteV a] ∧ a.length ≤ 1000000 ∧ K (.sl byteV a)
noncomputable def cloneB_lib : List (Nat × Spec):=[]
noncomputable def cloneB_fns : List (Nat × FnI):=[]
noncomputable def cloneB_prims : List (Nat × PSpec):=[]
theorem cloneB_E : EnvOK ⟨Tryz.prog,tys,cloneB_lib,cloneB_fns,cloneB_prims,[]⟩:=env_ok mixed0 tys0 .nil .nil .nil rfl
set_option maxHeartbeats 4000000 in
theorem cloneB_ok : Pure Tryz.prog 66 cloneB_S:=by
  refine pure_by cloneB_E 6 (fi:={fn:=Tryz.f66,hooks:=[],draws:=[]}) ⟨Tryz.func66,by kernel_rfl,by kernel_rfl⟩ ?_
  rintro _ K ⟨x,rfl,hx,hK⟩
  replace hK : ∀ p,p = .sl byteV x → K p:=fun r h=>h ▸ hK
  repeat' first | refine ⟨_,_,_,LeL.refl _,?_⟩ | (refine fun (b : Bool) hb=>?_; cases b <;> (first | exact absurd hb (by decide) | exact Bool.noConfusion (show true = false from hb) | exact Bool.noConfusion (show false = true from hb) | skip)) | refine And.intro (a:=_ ≤ 140737488355328) ?_ ?_ | refine ⟨(fun _=>rfl),?_⟩ | refine ⟨UInt8,byteV,?_⟩ | fail
  · simp
    omega
  · exact hK _ rfl
  · rename_i h
    have e:=h rfl
    subst e
    exact hK _ rfl
end Gv
namespace Gv
variable [Glob] [Laid]
theorem bytesF_ca : callable Tryz.prog 77 = true:=by kernel_rfl
def bytesF_S : Spec:=fun args K=>∃ (l : List FileS) (n : Bs),args = [.sl fileV l,.str n] ∧ (∀ f ∈ l,f.b.length ≤ 1000000) ∧ K (.sl byteV (fileAt l n))
noncomputable def bytesF_lib : List (Nat × Spec):=[(79,placeF_S),(66,cloneB_S)]
noncomputable def bytesF_fns : List (Nat × FnI):=[]
noncomputable def bytesF_prims : List (Nat × PSpec):=[]
theorem bytesF_E : EnvOK ⟨Tryz.prog,tys,bytesF_lib,bytesF_fns,bytesF_prims,[]⟩:=env_ok mixed0 tys0 (.cons placeF_ca placeF_ok (.cons cloneB_ca cloneB_ok .nil)) .nil .nil rfl
set_option maxHeartbeats 4000000 in
theorem bytesF_ok : Pure Tryz.prog 77 bytesF_S:=by
  refine pure_by bytesF_E 6 (fi:={fn:=Tryz.f77,hooks:=[],draws:=[]}) ⟨Tryz.func77,by kernel_rfl,by kernel_rfl⟩ ?_
  rintro _ K ⟨l,n,rfl,hfb,hK⟩
  replace hK : ∀ r,r = .sl byteV (fileAt l n) → K r:=fun r h=>h ▸ hK
  refine ⟨l,n,rfl,?_⟩
  obtain ⟨q,hq⟩ : ∃ q,isAt l n = q:=⟨_,rfl⟩
  rw [hq]
  cases q
  · repeat' first | (refine fun (b : Bool) hb=>?_; cases b <;> (first | exact absurd hb (by decide) | exact Bool.noConfusion (show true = false from hb) | exact Bool.noConfusion (show false = true from hb) | skip)) | fail
    refine ⟨UInt8,byteV,?_⟩
    refine hK _ ?_
    unfold isAt at hq
    unfold fileAt
    cases h : l[placeI l n]? with
    | none=>rfl
    | some f =>
      rw [h] at hq
      have : ¬ f.name = n:=of_decide_eq_false hq
      simp [this]
  · have hx : ∃ h : placeI l n < l.length, l[placeI l n].name = n := by
      unfold isAt at hq
      cases h : l[placeI l n]? with
      | none=>rw [h] at hq; cases hq
      | some f =>
        rw [h] at hq
        obtain ⟨h1,h2⟩:=List.getElem?_eq_some_iff.1 h
        exact ⟨h1,by rw [h2]; exact of_decide_eq_true hq⟩
    obtain ⟨hlt,hn⟩:=hx
    have hf : fileAt l n = l[placeI l n].b:=by
      unfold fileAt
      rw [List.getElem?_eq_getElem hlt]
      simp [hn]
    rw [hf] at hK
    repeat' first | (refine fun (b : Bool) hb=>?_; cases b <;> (first | exact absurd hb (by decide) | exact Bool.noConfusion (show true = false from hb) | exact Bool.noConfusion (show false = true from hb) | skip)) | refine ⟨_,rfl,?_,rfl,?_⟩ | fail
    · exact hlt
    refine ⟨l[placeI l n].b,rfl,hfb _ (List.getElem_mem hlt),?_⟩
    skip
    exact hK _ rfl
end Gv
namespace Gv
variable [Glob] [Laid]
theorem getF_ca : callable Tryz.prog 27 = true:=by kernel_rfl
def getF_S : Spec:=fun args K=>∃ (F : List FileS) (n : Bs),args = [.sl fileV F,.str n] ∧ K (.tup [.sl byteV (getS F n).1,.int .i64 (getS F n).2])
noncomputable def getF_lib : List (Nat × Spec):=[(32,cfiles_S),(77,bytesF_S)]
noncomputable def getF_fns : List (Nat × FnI):=[]
noncomputable def getF_prims : List (Nat × PSpec):=[]
theorem getF_E : EnvOK ⟨Tryz.prog,tys,getF_lib,getF_fns,getF_prims,[]⟩:=env_ok mixed0 tys0 (.cons cfiles_ca cfiles_ok (.cons bytesF_ca bytesF_ok .nil)) .nil .nil rfl
set_option maxHeartbeats 4000000 in
theorem getF_ok : Pure Tryz.prog 27 getF_S:=by
  refine pure_by getF_E 6 (fi:={fn:=Tryz.f27,hooks:=[],draws:=[]}) ⟨Tryz.func27,by kernel_rfl,by kernel_rfl⟩ ?_
  rintro _ K ⟨F,n,rfl,hK⟩
  replace hK : ∀ r,r = .tup [.sl byteV (getS F n).1,.int .i64 (getS F n).2] → K r:=fun r h=>h ▸ hK
  refine ⟨F,rfl,?_⟩
  repeat' first | (refine fun (b : Bool) hb=>?_; cases b <;> (first | exact absurd hb (by decide) | exact Bool.noConfusion (show true = false from hb) | exact Bool.noConfusion (show false = true from hb) | skip)) | fail
  rotate_left
  · have h0 : checkFiles F ≠ 0:=by simpa using ‹(!decide (checkFiles F = 0)) = true›
    refine ⟨UInt8,byteV,?_⟩
    refine hK _ ?_
    unfold getS
    rw [if_pos h0]
  have h0 : checkFiles F = 0:=by simpa using ‹(!decide (checkFiles F = 0)) = false›
  obtain ⟨h12,hall⟩:=checkFiles_ok h0
  conv=>whnf
  skip
  refine ⟨F,n,rfl,fun f hf=>by have:=(hall f hf).2; omega,?_⟩
  skip
  refine hK _ ?_
  unfold getS
  rw [if_neg (by rw [h0]; decide)]
end Gv
namespace Gv
variable [Glob] [Laid]
theorem copyO_ca : callable Tryz.prog 64 = true:=by kernel_rfl
def copyO_P : PSpec:=fun args rows K=>∃ (l : List FileS),args = [.sl fileV l] ∧ rows = [] ∧ (l.length ≤ 1000 ∧ ∀ f ∈ l,f.b.length ≤ 1000000) ∧ K (.own 0) [.row 2 (l.map fileV)]
noncomputable def copyO_lib : List (Nat × Spec):=[(66,cloneB_S)]
noncomputable def copyO_fns : List (Nat × FnI):=[(128,{fn:=Tryz.f128,hooks:=[],draws:=[]})]
noncomputable def copyO_prims : List (Nat × PSpec):=[]
theorem copyO_E : EnvOK ⟨Tryz.prog,tys,copyO_lib,copyO_fns,copyO_prims,[]⟩:=env_ok mixed0 tys0 (.cons cloneB_ca cloneB_ok .nil) (.cons (by kernel_rfl) ⟨Tryz.func128,by kernel_rfl,by kernel_rfl⟩ .nil) .nil rfl
set_option maxHeartbeats 8000000 in
theorem copyO_prim : PrimOK Tryz.prog 64 copyO_P:=by
  refine prim_by copyO_E 6 copyO_ca (fi:={fn:=Tryz.f64,hooks:=[2],draws:=[]}) ⟨Tryz.func64,by kernel_rfl,by kernel_rfl⟩ ?_
  rintro args rows K ⟨l,rfl,rfl,⟨hl0,hfb⟩,hK⟩
  conv=>whnf
  refine join_live [] (σ:=Unit) (fun _=>[(0,.own 0)]) (fun _=>[.row 2 (l.map fileV)]) (fun _=>True) ?_
  conv=>whnf
  refine ⟨?_,fun _ _=>?_⟩
  · repeat' first | (refine fun (b : Bool) hb=>?_; cases b <;> (first | exact absurd hb (by decide) | exact Bool.noConfusion (show true = false from hb) | exact Bool.noConfusion (show false = true from hb) | skip)) | refine And.intro (a:=_ ≤ 140737488355328) ?_ ?_ | refine ⟨(fun _=>rfl),?_⟩ | fail
    · show (0 + (l.map fileV).length) * 40 ≤ 140737488355328
      rw [List.length_map]
      omega
    · exact ⟨(),(by (refine wk_auto ?_; refine Sel4.mk rfl rfl ?_ ?_ <;> (repeat' (first | exact True.intro | exact rfl | exact Or.inl rfl | exact Or.inr rfl | refine And.intro ?_ ?_ | fail)))),trivial⟩
    · have h : true = true → l = []:=by assumption
      rw [h rfl]
      exact ⟨(),(by (refine wk_auto ?_; refine Sel4.mk rfl rfl ?_ ?_ <;> (repeat' (first | exact True.intro | exact rfl | exact Or.inl rfl | exact Or.inr rfl | refine And.intro ?_ ?_ | fail)))),trivial⟩
  repeat' first | (refine fun (hl : _ ≤ MAXL)=>?_) | fail
  conv=>whnf
  refine loop_live [0,7,8] (σ:=Nat) (fun i=>[(9,.int .i64 i)]) (fun i=>[.row 2 (l.map fileV)]) (fun i=>i ≤ l.length) (fun i=>l.length - i) 0 ?_
  conv=>whnf
  refine ⟨(by (refine wk_auto ?_; refine Sel4.mk rfl rfl ?_ ?_ <;> (repeat' (first | exact True.intro | exact rfl | exact Or.inl rfl | exact Or.inr rfl | refine And.intro ?_ ?_ | fail)))),Nat.zero_le _,fun i hi=>?_⟩
  repeat' first | (refine fun (b : Bool) hb=>?_; cases b <;> (first | exact absurd hb (by decide) | exact Bool.noConfusion (show true = false from hb) | exact Bool.noConfusion (show false = true from hb) | skip)) | refine ⟨rfl,?_⟩ | fail
  · conv=>whnf
    exact hK
  have hlt : i < l.length:=by
    have h:=of_decide_eq_true (by assumption : decide ((i : Int) < ((l.map fileV).length : Int)) = true)
    rw [List.length_map] at h
    omega
  have hg : (l.map fileV)[i]? = some (fileV l[i]):=by rw [List.getElem?_map,List.getElem?_eq_getElem hlt]; rfl
  have hlm : i < (l.map fileV).length:=by rw [List.length_map]; exact hlt
  refine ⟨i,rfl,hlm,?_⟩
  conv=>whnf
  refine ⟨_,hg,?_⟩
  repeat' first | refine ⟨_,rfl,?_,rfl,?_⟩ | fail
  · exact hfb _ (List.getElem_mem hlt)
  refine ⟨i,rfl,hlm,?_⟩
  conv=>whnf
  refine ⟨_,hg,?_⟩
  repeat' first | refine And.intro (a:=I64 _) ?_ ?_ | fail
  · have hl1 : (l.map fileV).length ≤ MAXL:=by assumption
    unfold I64; omega
  refine ⟨i + 1,?_,hlt,by omega⟩
  (refine wk_auto ?_; refine Sel4.mk rfl rfl ?_ ?_ <;> (repeat' (first | exact True.intro | exact rfl | exact Or.inl rfl | exact Or.inr rfl | refine And.intro ?_ ?_ | fail)))
  have e : (l.map fileV).set i (fileV l[i]) = l.map fileV:=by
    have : (l.map fileV)[i]'hlm = fileV l[i]:=by simp
    rw [← this,List.set_getElem_self]
  show Row.row 2 (l.map fileV) = Row.row 2 ((l.map fileV).set i (fileV l[i]))
  rw [e]
end Gv
namespace Gv
variable [Glob] [Laid]
set_option maxHeartbeats 4000000 in
set_option maxRecDepth 100000 in
theorem insF_in {m : Mem} {b vb cap vc i : Nat} {els : List V} {x : V} {arr xarr : Array Value} {T T' : TypeId} {fz fz' : Nat × Nat} {w : World} (hb : w.heap[b]? = some (.cells arr T fz)) (hv : w.heap[vb]? = some (.cells xarr T' fz')) (hne : vb ≠ b) (hz : noFk 2 arr.size fz) (hz' : noFk 2 xarr.size fz') (he : ElsR m 2 els arr) (hx : ElsR m 2 [x] xarr)
    (hi : i < els.length) (hl : els.length ≤ 1000) (hc : els.length + 1 ≤ cap) (hcap : cap ≤ MAXL) (hs : arr.size = cap * 2) (hs' : 2 ≤ xarr.size) :
    Calls Tryz.prog 80 #[.slice (some ⟨b,0,none⟩) els.length cap,.int .i64 i,.slice (some ⟨vb,0,none⟩) 1 vc] w fun e w'=>∃ A,e = .returned (.slice (some ⟨b,0,none⟩) (els.length + 1) cap) ∧ Bel [b] w w' ∧ w'.heap[b]? = some (.cells A T fz) ∧ A.size = arr.size ∧ ElsR m 2 (els.take i ++ x :: els.drop i) A:=by
  have hzE : tyOf Tryz.prog 56 = some (.agg #[.string ⟨#[]⟩,.slice none 0 0],2,40,true):=by kernel_rfl
  have mixed:=mixed0
  have t1:=Tryz.underlying25; have a1:=Tryz.isAgg25; have z1:=Tryz.sizeOf25; have v1:=Tryz.zeroValue25; have u1:=run_underlying Tryz.underlying25
  have t2:=Tryz.underlying56; have a2:=Tryz.isAgg56; have z2:=Tryz.sizeOf56; have v2:=Tryz.zeroValue56; have u2:=run_underlying Tryz.underlying56
  have t3:=Tryz.underlying3; have a3:=Tryz.isAgg3; have z3:=Tryz.sizeOf3; have v3:=Tryz.zeroValue3; have u3:=run_underlying Tryz.underlying3
  have t4:=Tryz.underlying4; have a4:=Tryz.isAgg4; have z4:=Tryz.sizeOf4; have v4:=Tryz.zeroValue4; have u4:=run_underlying Tryz.underlying4
  have hfz':=hz'.2 (by decide)
  subst hfz'
  unfold MAXL at hcap
  have hov : ∀ o lb cb,(callFunc 138 #[.slice (some ⟨vb,0,none⟩) 1 vc,.slice (some ⟨b,o,none⟩) lb cb]).run Tryz.prog w = .ok (.value (.bool false)) w:=fun o lb cb=>by
    rw [run_callFunc_extern Tryz.func138 (by kernel_rfl) (by kernel_rfl) (by kernel_rfl) (e:=Extern.SlicesOverlaps.overlaps #[25,25] #[4]) (by kernel_rfl),
      Lib.run_overlaps_apart w 25 4 56 Tryz.underlying25 2 Tryz.sizeOf56 ⟨vb,0,none⟩ ⟨b,o,none⟩ 1 vc lb cb hne T' T xarr.size arr.size (by simp [World.shape?,hv]) (by simp [World.shape?,hb]) (by omega) (by simp [World.frozen?,hv]) (by simp [World.frozen?,hv])]
    rfl
  have hw1 : IntKind.i64.wrap ((i : Int) + 1) = (i : Int) + 1:=by rw [IntKind.wrap_i64]; omega
  have hw2 : IntKind.i64.wrap ((els.length : Int) + 1) = (els.length : Int) + 1:=by rw [IntKind.wrap_i64]; omega
  have hb1 : (0 : Int) ≤ (i : Int) + 1:=by omega
  have htn : ((i : Int) + 1).toNat = i + 1:=by omega
  have hb3 : (i : Int) ≤ (els.length : Int) + 1:=by omega
  have hb2 : ¬ cap = i + 1:=by omega
  have hb4 : ¬ cap = i:=by omega
  have hb5 : (i : Int) + 1 ≤ (els.length : Int) + 1:=by omega
  obtain ⟨new,hnl,hnr,hn1,hng⟩:=src_from (P:=Tryz.prog) (l:=els.length + 1 - i) (cap:=cap - i) hb he (Nat.le_of_lt hi)
  obtain ⟨w1,hr1,hbel1,hh1⟩:=run_copy_in (P:=Tryz.prog) (w:=w.drew) (T:=25) (U:=25) (b:=b) (o:=(i + 1) * 2) (dLen:=els.length + 1 - (i + 1)) (dCap:=cap - (i + 1)) (sLen:=els.length + 1 - i) (n:=els.length - i) (sv:=.slice (some ⟨b,i * 2,none⟩) (els.length + 1 - i) (cap - i)) t1 hzE rfl (by simp only [Nat.min_def]; split <;> omega) (hnr w.drew rfl) hn1 hb hz.1 (by rw [hnl,hs]; omega) 3
  have hv1 : w1.heap[vb]? = some (.cells xarr T' (0,0)):=by
    rw [hbel1.block vb (lt_of_heap (w:=w.drew) hv) (by simpa using hne)]; exact hv
  obtain ⟨new2,hnl2,hnr2,hn12,hng2⟩:=src_from (P:=Tryz.prog) (w:=w1) (b:=vb) (i:=0) (l:=1) (cap:=vc) hv1 hx (Nat.zero_le _)
  simp only [List.length_cons,List.length_nil,Nat.zero_add,Nat.sub_zero,Nat.zero_mul,Nat.one_mul] at hnl2 hnr2 hng2
  obtain ⟨w2,hr2,hbel2,hh2⟩:=run_copy_in (P:=Tryz.prog) (w:=w1) (T:=25) (U:=25) (b:=b) (o:=i * 2) (dLen:=els.length + 1 - i) (dCap:=cap - i) (sLen:=1) (n:=1) (sv:=.slice (some ⟨vb,0,none⟩) 1 vc) t1 hzE rfl (by simp only [Nat.min_def]; split <;> omega) (hnr2 w1 rfl) hn12 hh1 (by rw [size_putL]; exact hz.1) (by rw [hnl2,size_putL,hs]; omega) 3
  have hA : ElsR m 2 (els.take i ++ x :: els.drop i) (putL (putL arr ((i + 1) * 2) new) (i * 2) new2):=by
    have b1 : (i + 1) * 2 + new.length ≤ arr.size:=by rw [hnl,hs]; omega
    have b2 : i * 2 + new2.length ≤ (putL arr ((i + 1) * 2) new).size:=by rw [hnl2,size_putL,hs]; omega
    refine ElsR.ins he hx (Nat.le_of_lt hi) (fun j hj=>?_) (fun j hj=>?_) (fun j h1 h2=>?_)
    · rw [get_putL _ _ _ b2,if_pos hj,get_putL _ _ _ b1,if_pos (by omega)]
    · rw [get_putL _ _ _ b2,if_neg (by omega),if_pos (by omega),show i * 2 + j - i * 2 = j by omega]
      exact hng2 j (by omega)
    · rw [get_putL _ _ _ b2,if_neg (by omega),if_neg (by omega),get_putL _ _ _ b1,if_neg (by omega),if_pos (by omega),hng _ (by omega)]
      congr 1; omega
  generalize hn : els.length = n at *
  go_enter Tryz.func80,Tryz.ntmps80
  go_wp2_with (simp only [hov])
  go_region_law_o (refine reg_copy rfl _ _ 25 25 rfl (by simp [Act.eval,Act.put,hb2]) (by simp [Act.eval,Act.put,hb4]) hr1 ?_)
  go_wp2_with (at_builtin; refine wpl_copy rfl _ _ 25 25 rfl rfl rfl hr2 ?_)
  go_ret
  refine ⟨_,rfl,((Bel.drew [b] w).trans hbel1).trans hbel2,hh2,by rw [size_putL,size_putL],hA⟩
set_option maxHeartbeats 4000000 in
set_option maxRecDepth 100000 in
theorem insF_grow {m : Mem} {b vb cap vc i : Nat} {els : List V} {x : V} {arr xarr : Array Value} {T T' : TypeId} {fz fz' : Nat × Nat} {w : World} (hb : w.heap[b]? = some (.cells arr T fz)) (hv : w.heap[vb]? = some (.cells xarr T' fz')) (he : ElsR m 2 els arr) (hx : ElsR m 2 [x] xarr)
    (hi : i < els.length) (hl : els.length ≤ 1000) (hlc : els.length ≤ cap) (hc : cap < els.length + 1) :
    Calls Tryz.prog 80 #[.slice (some ⟨b,0,none⟩) els.length cap,.int .i64 i,.slice (some ⟨vb,0,none⟩) 1 vc] w fun e w'=>∃ A nc,e = .returned (.slice (some ⟨w.heap.size,0,none⟩) (els.length + 1) nc) ∧ els.length + 1 ≤ nc ∧ nc ≤ MAXL ∧ Bel [] w w' ∧ w'.heap[w.heap.size]? = some (.cells A 56 (0,0)) ∧ A.size = nc * 2 ∧ ElsR m 2 (els.take i ++ x :: els.drop i) A:=by
  have hzE : tyOf Tryz.prog 56 = some (.agg #[.string ⟨#[]⟩,.slice none 0 0],2,40,true):=by kernel_rfl
  have mixed:=mixed0
  have t1:=Tryz.underlying25; have a1:=Tryz.isAgg25; have z1:=Tryz.sizeOf25; have v1:=Tryz.zeroValue25; have u1:=run_underlying Tryz.underlying25
  have t2:=Tryz.underlying56; have a2:=Tryz.isAgg56; have z2:=Tryz.sizeOf56; have v2:=Tryz.zeroValue56; have u2:=run_underlying Tryz.underlying56
  have t3:=Tryz.underlying3; have a3:=Tryz.isAgg3; have z3:=Tryz.sizeOf3; have v3:=Tryz.zeroValue3; have u3:=run_underlying Tryz.underlying3
  have t4:=Tryz.underlying4; have a4:=Tryz.isAgg4; have z4:=Tryz.sizeOf4; have v4:=Tryz.zeroValue4; have u4:=run_underlying Tryz.underlying4
  obtain ⟨i0,ui,hi0,hui,hiz,hik,hie,hig⟩:=tyOf_parts hzE
  have hw2 : IntKind.i64.wrap ((els.length : Int) + 1) = (els.length : Int) + 1:=by rw [IntKind.wrap_i64]; omega
  have hw1 : IntKind.i64.wrap ((i : Int) + 1) = (i : Int) + 1:=by rw [IntKind.wrap_i64]; omega
  have hw3 : IntKind.i64.wrap ((els.length : Int) + 1 - (i : Int)) = (els.length : Int) + 1 - (i : Int):=by rw [IntKind.wrap_i64]; omega
  have hb1 : (0 : Int) ≤ (i : Int) + 1:=by omega
  have htn : ((i : Int) + 1).toNat = i + 1:=by omega
  have hb3 : (i : Int) ≤ (els.length : Int) + 1:=by omega
  have hb5 : (i : Int) + 1 ≤ (els.length : Int) + 1:=by omega
  have hb6 : (i : Int) ≤ (cap : Int):=by omega
  have hb7 : (i : Int) ≤ (els.length : Int):=by omega
  have hb8 : i ≤ els.length:=by omega
  have hb9 : i ≤ cap:=by omega
  have hbw:=lt_of_heap hb
  have hvw:=lt_of_heap hv
  have hkk : (els.length : Int) + 1 - (i : Int) = ((els.length + 1 - i : Nat) : Int):=by omega
  have hik2 : i + (els.length + 1 - i) = els.length + 1:=by omega
  have S:=src_block (P:=Tryz.prog) (m:=m) (w:=w) (b:=b) (off:=0) (k:=2) (cap:=cap) (ys:=els.take i) hb (fun t y hy=>by
    rw [List.getElem?_take] at hy
    split at hy
    · simpa using he t y hy
    · cases hy)
  have hti : (els.take i).length = i:=by rw [List.length_take]; omega
  obtain ⟨olds,hol,hor,hog⟩ : ∃ olds : List Value,olds.length = i * 2 ∧ (Builtin.firstCells i0.size i (.slice (some ⟨b,0,none⟩) i cap)).run Tryz.prog w.drew = .ok olds.toArray w.drew ∧ ∀ j,j < i * 2 → olds[j]? = arr[j]?:=by
    refine ⟨_,S.size.trans (by rw [hti]),by have:=S.run w.drew rfl; rw [hti] at this ⊢; rw [hik]; exact this,fun j hj=>?_⟩
    rw [hti,List.getElem?_map,List.getElem?_range hj]
    obtain ⟨h1,h2,h3⟩:=index_split hj
    obtain ⟨g1,g2⟩:=he (j / 2) _ (List.getElem?_eq_getElem (by omega))
    obtain ⟨u,g3,g4⟩:=g2 (j % 2) _ (List.getElem?_eq_getElem (by omega))
    rw [h3] at g3
    simp [g3]
  have hrz:=Lib.run_append_grow_zeros w 25 3 25 56 i0 _ .i64 .i64 t1 t3 hi0 hiz (some ⟨b,0,none⟩) i cap olds hor (els.length + 1 - i) (by omega) (by omega) (by omega) (by omega) (by rw [hie]; omega) (by rw [hie,hik2]; exact growslice_fits hc (by omega))
  rw [hik2,← hkk] at hrz
  obtain ⟨G,hG⟩ : ∃ G,G = grownCap w (els.length + 1) cap 56:=⟨_,rfl⟩
  have hGn : els.length + 1 ≤ G:=by rw [hG]; exact grownCap_ge w _ _ _
  have hG63 : G ≤ 9223372036854775807:=by
    have:=grownCap_le_maxLen w (els.length + 1) cap 56 (by unfold maxLen; omega)
    rw [← hG] at this
    unfold maxLen at this
    omega
  rw [← hG] at hrz
  generalize hROW : olds.toArray ++ Builtin.zeroCells _ (els.length + 1 - i) ++ Builtin.zeroCells _ (G - (els.length + 1)) = ROW at hrz
  have hRs : ROW.size = G * 2:=by
    rw [← hROW]
    simp [zeroCells_size,hol,Value.cells]
    omega
  have hRo : ∀ j,j < i * 2 → ROW[j]? = arr[j]?:=fun j hj=>by
    rw [← hROW,Array.append_assoc,Array.getElem?_append_left (by simp; omega)]
    simpa using hog j hj
  have hNh : (w.drew.alloc (.cells ROW 56)).heap[w.heap.size]? = some (.cells ROW 56 (0,0)):=Gw.heap_alloc_new w.drew _
  have hB0 : Bel [] w (w.drew.alloc (.cells ROW 56)):=(Bel.drew [] w).trans (Bel.alloc [] _ _)
  generalize hW1 : w.drew.alloc (.cells ROW 56) = W1 at *
  have hv1 : W1.heap[vb]? = some (.cells xarr T' fz'):=by rw [hB0.block vb hvw (by simp)]; exact hv
  have hbW1 : W1.heap[b]? = some (.cells arr T fz):=by rw [hB0.block b hbw (by simp)]; exact hb
  have hGi : ¬ (G = i):=by omega
  have hGim : ¬ (G = i + 1):=by omega
  have hci : ¬ (cap = i):=by omega
  obtain ⟨new2,hnl2,hnr2,hn12,hng2⟩:=src_from (P:=Tryz.prog) (w:=W1) (b:=vb) (i:=0) (l:=1) (cap:=vc) hv1 hx (Nat.zero_le _)
  simp only [List.length_cons,List.length_nil,Nat.zero_add,Nat.sub_zero,Nat.zero_mul,Nat.one_mul] at hnl2 hnr2 hng2
  obtain ⟨w2,hr2,hbel2,hh2⟩:=run_copy_in (P:=Tryz.prog) (w:=W1) (T:=25) (U:=25) (b:=w.heap.size) (o:=i * 2) (dLen:=els.length + 1 - i) (dCap:=G - i) (sLen:=1) (n:=1) (sv:=.slice (some ⟨vb,0,none⟩) 1 vc) t1 hzE rfl (by simp only [Nat.min_def]; split <;> omega) (hnr2 W1 rfl) hn12 hNh (noFz0 _) (by rw [hnl2,hRs]; omega) 3
  have hb2 : w2.drew.heap[b]? = some (.cells arr T fz):=by
    have : w2.heap[b]? = some (.cells arr T fz):=by rw [hbel2.block b (Nat.lt_of_lt_of_le hbw hB0.size) (by simp; omega)]; exact hbW1
    exact this
  obtain ⟨new,hnl,hnr,hn1,hng⟩:=src_from (P:=Tryz.prog) (w:=w2.drew) (l:=els.length - i) (cap:=cap - i) hb2 he (Nat.le_of_lt hi)
  obtain ⟨w3,hr3,hbel3,hh3⟩:=run_copy_in (P:=Tryz.prog) (w:=w2.drew) (T:=25) (U:=25) (b:=w.heap.size) (o:=(i + 1) * 2) (dLen:=els.length + 1 - (i + 1)) (dCap:=G - (i + 1)) (sLen:=els.length - i) (n:=els.length - i) (sv:=.slice (some ⟨b,i * 2,none⟩) (els.length - i) (cap - i)) t1 hzE rfl (by simp only [Nat.min_def]; split <;> omega) (hnr w2.drew rfl) hn1 hh2 (noFz0 _) (by rw [hnl,size_putL,hRs]; omega) 3
  have hA : ElsR m 2 (els.take i ++ x :: els.drop i) (putL (putL ROW (i * 2) new2) ((i + 1) * 2) new):=by
    have b1 : i * 2 + new2.length ≤ ROW.size:=by rw [hnl2,hRs]; omega
    have b2 : (i + 1) * 2 + new.length ≤ (putL ROW (i * 2) new2).size:=by rw [hnl,size_putL,hRs]; omega
    refine ElsR.ins he hx (Nat.le_of_lt hi) (fun j hj=>?_) (fun j hj=>?_) (fun j h1 h2=>?_)
    · rw [get_putL _ _ _ b2,if_pos (by omega),get_putL _ _ _ b1,if_pos hj]
      exact hRo j hj
    · rw [get_putL _ _ _ b2,if_pos (by omega),get_putL _ _ _ b1,if_neg (by omega),if_pos (by omega),show i * 2 + j - i * 2 = j by omega]
      exact hng2 j (by omega)
    · rw [get_putL _ _ _ b2,if_neg (by omega),if_pos (by omega),hng _ (by omega)]
      congr 1; omega
  have hfin : Bel [] w w3:=by
    have h1 : Bel [w.heap.size] w w3:=((hB0.weaken (by simp)).trans hbel2).trans ((Bel.drew _ w2).trans hbel3)
    exact h1.weaken fun k hk hx=>by simp at hx; omega
  have hsz : (putL (putL ROW (i * 2) new2) ((i + 1) * 2) new).size = G * 2:=by rw [size_putL,size_putL,hRs]
  clear hb hv he hx hB0 hol hor hog hnl hnr hn1 hng hnl2 hnr2 hn12 hng2 hbel2 hbel3 hh2 hb2 hbW1 hv1 hNh hRo hRs hROW hG S hti hW1 hik hie hig hui hiz hi0 hik2 hkk
  generalize hn : els.length = n at *
  go_enter Tryz.func80,Tryz.ntmps80
  go_wp2_with (first
    | (at_builtin; refine wpl_append rfl _ _ 25 3 rfl rfl rfl hrz ?_)
    | (at_builtin; refine wpl_copy rfl _ _ 25 25 rfl rfl rfl hr2 ?_))
  go_region_law_o (refine reg_copy rfl _ _ 25 25 rfl (by simp [Act.eval,Act.put,hGim]) (by simp [Act.eval,Act.put,hci]) hr3 ?_)
  go_wp2
  go_ret
  exact ⟨_,_,rfl,hGn,hG63,hfin,hh3,hsz,hA⟩
theorem insF_E : EnvOK ⟨Tryz.prog,tys,[],[],[],[]⟩:=env_ok mixed0 tys0 .nil .nil .nil rfl
set_option maxHeartbeats 4000000 in
set_option maxRecDepth 100000 in
theorem insF_end {w0 : Start} {m0 R m : Mem} {q : Loc} {rows : Rows} {K : V → Rows → Prop} {w : World} {els : List V} {x : V} {r rv : Nat} {cap vc : Nat} {oa oa' : Option Addr} (C : Cf w0 m0 rows R m q w) (hr : rows[r]? = some (.row 2 els)) (hrv : rows[rv]? = some (.row 2 [x]))
    (hl : els.length ≤ 1000) (hv : VR m q (.own r) (.slice oa els.length cap)) (hv' : VR m q (.own rv) (.slice oa' 1 vc)) (hK : setK rows r .dead fun a=>pushK 0 a (.row 2 (els ++ [x])) fun j b=>K (.own j) b) :
    Calls Tryz.prog 80 #[.slice oa els.length cap,.int .i64 els.length,.slice oa' 1 vc] w fun e w'=>∃ u,e = .returned u ∧ After w0 m0 m q K u w':=by
  have ha : appO ⟨Tryz.prog,tys,[],[],[],[]⟩ 25 (.own r) (.own rv) rows (fun v rows'=>K v rows' ∧ ∃ j,v = .own j):=by
    rw [← nth_eq] at hr hrv
    obtain ⟨hrl,hK⟩:=setK_ok _ _ _ _ hK
    have hK:=pushK_ok _ _ _ _ hK
    refine (show elN 2 (.own rv) rows ∧ (match elsOf (.own rv) rows with
        | some ys => match nth rows r with
            | some (.row q els)=>match Nat.beq q 2 with
              | true=>(els.length + ys.length) * 40 ≤ 140737488355328 ∧ setK rows r .dead fun rows'=>pushK 0 rows' (.row 2 (els ++ ys)) fun r' rows''=>(fun v rows'=>K v rows' ∧ ∃ j,v = .own j) (.own r') rows''
              | false=>False
            | _=>False
        | none=>False) → _ from fun h=>h) ⟨?_,?_⟩
    · simp only [elN,hrv]; rfl
    · simp only [elsOf,hrv,hr]
      exact ⟨by simp; omega,setK_mk _ _ _ _ hrl (pushK_mk _ _ _ _ ⟨hK,_,rfl⟩)⟩
  obtain ⟨u,w',hrun,hA⟩:=appO_ok (T:=25) (U:=25) insF_E C hv hv' Tryz.underlying25 rfl ha 25
  obtain ⟨v,rows',R',m',q',⟨h1,j,rfl⟩,h2,h3,h4,h5⟩:=hA
  have hA : After w0 m0 m q K u w':=⟨_,rows',R',m',q',h1,h2,h3,h4,h5⟩
  obtain ⟨ua,un,uc,rfl⟩ : ∃ a n c,u = .slice a n c:=by
    cases h5; exact ⟨_,_,_,rfl⟩
  have mixed:=mixed0
  have t1:=Tryz.underlying25; have a1:=Tryz.isAgg25; have z1:=Tryz.sizeOf25; have v1:=Tryz.zeroValue25; have u1:=run_underlying Tryz.underlying25
  have t2:=Tryz.underlying56; have a2:=Tryz.isAgg56; have z2:=Tryz.sizeOf56; have v2:=Tryz.zeroValue56; have u2:=run_underlying Tryz.underlying56
  have t3:=Tryz.underlying3; have a3:=Tryz.isAgg3; have z3:=Tryz.sizeOf3; have v3:=Tryz.zeroValue3; have u3:=run_underlying Tryz.underlying3
  have t4:=Tryz.underlying4; have a4:=Tryz.isAgg4; have z4:=Tryz.sizeOf4; have v4:=Tryz.zeroValue4; have u4:=run_underlying Tryz.underlying4
  clear ha hK h1 h2 h3 h4 h5
  generalize hn : els.length = n at *
  go_enter Tryz.func80,Tryz.ntmps80
  go_wp2_with (at_builtin; refine wpl_append rfl _ _ 25 25 rfl rfl rfl hrun ?_)
  all_goals (go_ret; exact ⟨_,rfl,hA⟩)
theorem insF_ca : callable Tryz.prog 80 = true:=by kernel_rfl
def insF_P : PSpec:=fun args rows K=>∃ (els : List V) (x : V) (i r rv : Nat),args = [.own r,.int .i64 i,.own rv] ∧ r ≠ rv ∧ rows[r]? = some (.row 2 els) ∧ rows[rv]? = some (.row 2 [x]) ∧ i ≤ els.length ∧ els.length ≤ 1000 ∧ setK rows r .dead fun a=>pushK 0 a (.row 2 (els.take i ++ x :: els.drop i)) fun j b=>K (.own j) b
set_option maxHeartbeats 4000000 in
theorem insF_prim : PrimOK Tryz.prog 80 insF_P:=by
  intro w0 m0 args rows K R m q w us C hv hT
  obtain ⟨els,x,i,r,rv,rfl,hne,hr,hrv,hi,hl,hK⟩:=hT
  have hlen : us.length = 3:=by rw [← hv.len]; rfl
  obtain ⟨u,u',u'',rfl⟩ : ∃ u u' u'',us = [u,u',u'']:=by
    match us,hlen with
    | [u,u',u''],_=>exact ⟨u,u',u'',rfl⟩
  have hu:=hv.el 0 (.own r) u rfl rfl
  have hu':=hv.el 1 (.int .i64 i) u' rfl rfl
  have hu'':=hv.el 2 (.own rv) u'' rfl rfl
  cases hu'
  refine ⟨insF_ca,?_⟩
  obtain ⟨ob,cap,g1,g2,g3,g4,g5⟩:=C.rok.row r _ hr
  obtain ⟨ob',cap',g1',g2',g3',g4',g5'⟩:=C.rok.row rv _ hrv
  have h0:=hu
  have h0'':=hu''
  cases hu with | own hq=>?_
  cases hu'' with | own hq''=>?_
  rw [g1] at hq; cases hq
  rw [g1'] at hq''; cases hq''
  by_cases hin : i = els.length
  · subst hin
    rw [List.take_length,List.drop_length] at hK
    exact insF_end C hr hrv hl h0 h0'' hK
  have hlt : i < els.length:=by omega
  obtain ⟨b,rfl⟩ : ∃ b,ob = some b:=by
    cases ob with
    | some b=>exact ⟨b,rfl⟩
    | none=>have:=g4 rfl; omega
  obtain ⟨vb,rfl⟩ : ∃ b,ob' = some b:=by
    cases ob' with
    | some b=>exact ⟨b,rfl⟩
    | none=>have:=g4' rfl; simp at g2'; omega
  obtain ⟨arr,T,fz,a1,a2,a3,a4⟩:=g5 b rfl
  obtain ⟨xarr,T',fz',b1,b2,b3,b4⟩:=g5' vb rfl
  have hbh:=(C.sit.own _ _ a1).2.1
  have hvh:=(C.sit.own _ _ b1).2.1
  have hbv : vb ≠ b:=fun e=>hne (C.rok.apart r rv _ _ b hr hrv rfl rfl (occ_one rfl g1) (occ_one rfl (e ▸ g1')))
  obtain ⟨hrl,hK⟩:=setK_ok _ _ _ _ hK
  have hK:=pushK_ok _ _ _ _ hK
  rw [Nat.zero_add,List.length_set] at hK
  have hlA : (els.take i ++ x :: els.drop i).length = els.length + 1:=by simp; omega
  by_cases hc : els.length + 1 ≤ cap
  · refine (insF_in (m:=m) (vc:=cap') hbh hvh hbv a4 b4 a3 b3 hlt hl hc g3 a2 (by rw [b2]; simp at g2'; omega)).mono fun e w' he=>?_
    obtain ⟨A,rfl,hbel,hh,hs,hA⟩:=he
    have S':=C.sit.write a1 hbel hh
    have hnew : RowOK (R.put b (.cells A T fz)) m (q.add rows.length (some b,(els.take i ++ x :: els.drop i).length,cap,2)) rows.length (.row 2 (els.take i ++ x :: els.drop i)) :=
      ⟨some b,cap,add_self _ _ _,by rw [hlA]; exact hc,g3,(fun h=>by cases h),fun b' hb'=>by cases hb'; exact ⟨A,T,fz,by simp [Mem.put],by rw [hs,a2],hA,by rw [hs]; exact a4⟩⟩
    refine ⟨_,rfl,_,_,_,_,_,hK,C.move hr rfl g1 S' hnew,Mem.Le.refl m,C.le_add _,?_⟩
    have:=VR.own (m:=m) (add_self q rows.length (some b,(els.take i ++ x :: els.drop i).length,cap,2))
    rw [hlA] at this ⊢
    exact this
  · refine (insF_grow (m:=m) (vc:=cap') hbh hvh a3 b3 hlt hl g2 (by omega)).mono fun e w' he=>?_
    obtain ⟨A,nc,rfl,h1,h2,hbel,hh,hs,hA⟩:=he
    have C2:=(C.kill hr).rowG hbel hh (noFk0 2 _) hs (els:=els.take i ++ x :: els.drop i) (by rw [hlA]; exact h1) h2 hA
    rw [List.length_set] at C2
    refine ⟨_,rfl,_,_,_,_,_,hK,C2,Mem.Le.refl m,C.le_add _,?_⟩
    have:=VR.own (m:=m) (add_self q rows.length (some w.heap.size,(els.take i ++ x :: els.drop i).length,nc,2))
    rw [hlA] at this ⊢
    exact this
end Gv
namespace Gv
variable [Glob] [Laid]
theorem putF_ca : callable Tryz.prog 28 = true:=by kernel_rfl
def putF_S : Spec:=fun args K=>∃ (F : List FileS) (n b : Bs),args = [.sl fileV F,.str n,.sl byteV b] ∧ K (.tup [.sl fileV (putS F n b).1,.int .i64 (putS F n b).2])
noncomputable def putF_lib : List (Nat × Spec):=[(32,cfiles_S),(78,word_S),(79,placeF_S),(66,cloneB_S)]
noncomputable def putF_fns : List (Nat × FnI):=[(80,{ fn:=Tryz.f80,spec:=some insF_P })]
noncomputable def putF_prims : List (Nat × PSpec):=[(64,copyO_P)]
theorem putF_E : EnvOK ⟨Tryz.prog,tys,putF_lib,putF_fns,putF_prims,[]⟩:=env_ok mixed0 tys0 (.cons cfiles_ca cfiles_ok (.cons word_ca word_ok (.cons placeF_ca placeF_ok (.cons cloneB_ca cloneB_ok .nil)))) (.told insF_ca rfl insF_prim .nil) (.cons copyO_prim .nil) rfl
set_option maxHeartbeats 8000000 in
theorem putF_ok : Pure Tryz.prog 28 putF_S:=by
  refine pure_by putF_E 6 (fi:={fn:=Tryz.f28,hooks:=[],draws:=[]}) ⟨Tryz.func28,by kernel_rfl,by kernel_rfl⟩ ?_
  rintro _ K ⟨F,n,b,rfl,hK⟩
  replace hK : ∀ r,r = .tup [.sl fileV (putS F n b).1,.int .i64 (putS F n b).2] → K r:=fun r h=>h ▸ hK
  refine ⟨F,rfl,?_⟩
  repeat' first | (refine fun (b : Bool) hb=>?_; cases b <;> (first | exact absurd hb (by decide) | exact Bool.noConfusion (show true = false from hb) | exact Bool.noConfusion (show false = true from hb) | skip)) | fail
  rotate_left
  · have h0 : checkFiles F ≠ 0:=by simpa using ‹(!decide (checkFiles F = 0)) = true›
    refine ⟨FileS,fileV,?_⟩
    refine hK _ ?_
    unfold putS
    rw [if_pos h0]
  have h0 : checkFiles F = 0:=by simpa using ‹(!decide (checkFiles F = 0)) = false›
  obtain ⟨h12,hall⟩:=checkFiles_ok h0
  conv=>whnf
  refine ⟨n,rfl,?_⟩
  repeat' first | (refine fun (b : Bool) hb=>?_; cases b <;> (first | exact absurd hb (by decide) | exact Bool.noConfusion (show true = false from hb) | exact Bool.noConfusion (show false = true from hb) | skip)) | (refine fun (hl : _ ≤ MAXL)=>?_) | fail
  rotate_left
  · have h1 : isWord n = true:=by simpa using ‹(!isWord n) = false›
    have h2 : 4000 < b.length:=by
      have h:=of_decide_eq_true (by assumption : decide (4000 < (b.length : Int)) = true)
      omega
    conv=>whnf
    skip
    refine ⟨FileS,fileV,?_⟩
    refine hK _ ?_
    unfold putS
    rw [if_neg (by rw [h0]; decide),if_neg (by rw [h1]; decide),if_pos h2]
  · have h1 : isWord n = false:=by simpa using ‹(!isWord n) = true›
    conv=>whnf
    skip
    refine ⟨FileS,fileV,?_⟩
    refine hK _ ?_
    unfold putS
    rw [if_neg (by rw [h0]; decide),if_pos h1]
  have h1 : isWord n = true:=by simpa using ‹(!isWord n) = false›
  have h2 : ¬ 4000 < b.length:=by
    have h:=of_decide_eq_false (by assumption : decide (4000 < (b.length : Int)) = false)
    omega
  conv=>whnf
  skip
  refine ⟨F,n,rfl,?_⟩
  repeat' first | (refine fun (b : Bool) hb=>?_; cases b <;> (first | exact absurd hb (by decide) | exact Bool.noConfusion (show true = false from hb) | exact Bool.noConfusion (show false = true from hb) | skip)) | (refine fun (hl : _ ≤ MAXL)=>?_) | fail
  · have h3 : isAt F n = true:=by simpa using ‹(!isAt F n) = false›
    obtain ⟨hp,hn⟩:=isAt_lt h3
    have hpm : placeI F n < (F.map fileV).length:=by rw [List.length_map]; exact hp
    conv=>whnf
    skip
    conv=>whnf
    skip
    refine ⟨F,rfl,rfl,⟨by omega,fun f hf=>by have:=(hall f hf).2; omega⟩,?_⟩
    conv=>whnf
    skip
    refine ⟨b,rfl,by omega,?_⟩
    conv=>whnf
    repeat' first | (refine fun (b : Bool) hb=>?_; cases b <;> (first | exact absurd hb (by decide) | exact Bool.noConfusion (show true = false from hb) | exact Bool.noConfusion (show false = true from hb) | skip)) | refine ⟨rfl,?_⟩ | fail
    · exact absurd ((‹isAt F n = false› : isAt F n = false).symm.trans h3) (by decide)
    refine ⟨_,rfl,hpm,?_⟩
    conv=>whnf
    skip
    refine ⟨hpm,?_⟩
    conv=>whnf
    skip
    refine ⟨FileS,fileV,F.set (placeI F n) ⟨n,b⟩,by rw [List.map_set]; exact LeL.refl _,?_⟩
    refine hK _ ?_
    unfold putS putGo
    rw [if_neg (by rw [h0]; decide),if_neg (by rw [h1]; decide),if_neg h2,if_neg (fun h=>by rw [h.1] at h3; cases h3),if_pos h3]
  · have h3 : isAt F n = false:=by simpa using ‹(!isAt F n) = true›
    conv=>whnf
    skip
    conv=>whnf
    skip
    refine ⟨F,rfl,rfl,⟨by omega,fun f hf=>by have:=(hall f hf).2; omega⟩,?_⟩
    conv=>whnf
    skip
    refine ⟨b,rfl,by omega,?_⟩
    conv=>whnf
    repeat' first | (refine fun (b : Bool) hb=>?_; cases b <;> (first | exact absurd hb (by decide) | exact Bool.noConfusion (show true = false from hb) | exact Bool.noConfusion (show false = true from hb) | skip)) | refine ⟨rfl,?_⟩ | fail
    rotate_left
    · exact absurd ((‹isAt F n = true› : isAt F n = true).symm.trans h3) (by decide)
    conv=>whnf
    skip
    refine ⟨F.map fileV,.agg [.str n,.sl byteV b],placeI F n,0,2,rfl,by decide,rfl,rfl,by rw [List.length_map]; exact place_le F n,by rw [List.length_map]; omega,?_⟩
    conv=>whnf
    skip
    refine ⟨FileS,fileV,F.take (placeI F n) ++ ⟨n,b⟩ :: F.drop (placeI F n),by rw [List.map_append,List.map_cons,List.map_take,List.map_drop]; exact LeL.refl _,?_⟩
    refine hK _ ?_
    have h4 : ¬ F.length = 12:=by
      have h:=of_decide_eq_false (by assumption : decide ((F.length : Int) = 12) = false)
      omega
    unfold putS putGo
    rw [if_neg (by rw [h0]; decide),if_neg (by rw [h1]; decide),if_neg h2,if_neg (fun h=>h4 h.2),if_neg (by rw [h3]; decide)]
  · have h3 : isAt F n = false:=by simpa using ‹(!isAt F n) = true›
    have h4 : F.length = 12:=by
      have h:=of_decide_eq_true (by assumption : decide ((F.length : Int) = 12) = true)
      omega
    conv=>whnf
    skip
    refine ⟨FileS,fileV,?_⟩
    refine hK _ ?_
    unfold putS
    rw [if_neg (by rw [h0]; decide),if_neg (by rw [h1]; decide),if_neg h2,if_pos ⟨h3,h4⟩]
end Gv
namespace Gv
variable [Glob] [Laid]
theorem ccheck_ca : callable Tryz.prog 132 = true:=by kernel_rfl
def ccheck_S : Spec:=fun args K=>∃ (k : Int) (s : Bs) (n : Int),args = [.agg [.int .i64 k,.str s,.int .i64 n]] ∧ K (.int .i64 (checkCmd ⟨k,s,n⟩))
noncomputable def ccheck_lib : List (Nat × Spec):=[(78,word_S)]
noncomputable def ccheck_fns : List (Nat × FnI):=[]
noncomputable def ccheck_prims : List (Nat × PSpec):=[]
theorem ccheck_E : EnvOK ⟨Tryz.prog,tys,ccheck_lib,ccheck_fns,ccheck_prims,[]⟩:=env_ok mixed0 tys0 (.cons word_ca word_ok .nil) .nil .nil rfl
set_option maxHeartbeats 4000000 in
theorem ccheck_ok : Pure Tryz.prog 132 ccheck_S:=by
  refine pure_by ccheck_E 6 (fi:={fn:=Tryz.f132,hooks:=[4,5,7,9],draws:=[]}) ⟨Tryz.func132,by kernel_rfl,by kernel_rfl⟩ ?_
  rintro _ K ⟨k,s,n,rfl,hK⟩
  replace hK : ∀ r,r = .int .i64 (checkCmd ⟨k,s,n⟩) → K r:=fun r h=>h ▸ hK
  obtain ⟨uw,huw⟩ : ∃ b,useWord ⟨k,s,n⟩ = b:=⟨_,rfl⟩
  obtain ⟨un,hun⟩ : ∃ b,useN ⟨k,s,n⟩ = b:=⟨_,rfl⟩
  have hc : checkCmd ⟨k,s,n⟩ = if k < 1 ∨ 10 < k then 4 else if (uw = false ∧ s ≠ []) ∨ (un = false ∧ n ≠ 0) then 4 else if un = true ∧ (n < 1 ∨ 1000 < n) then 3 else if (uw = true ∧ isWord s = false) ∨ (k = 3 ∧ s.length ≠ 2) then 1 else 0:=by
    unfold checkCmd
    rw [huw,hun]
  rw [hc] at hK
  clear hc
  simp only [useWord] at huw
  simp only [useN] at hun
  repeat' first | (refine fun (b : Bool) hb=>?_; cases b <;> (first | exact absurd hb (by decide) | exact Bool.noConfusion (show true = false from hb) | exact Bool.noConfusion (show false = true from hb) | skip)) | fail
  rotate_left
  · exact hK _ (by rw [if_pos (by grind)])
  · exact hK _ (by rw [if_pos (by grind)])
  have h1 : ¬ (k < 1 ∨ 10 < k):=by grind
  simp only [h1,if_false] at hK
  conv=>whnf
  refine join_live [1] (σ:=Bool) (fun b=>[(3,.bool b)]) (fun _=>[.box [.int .i64 k,.str s,.int .i64 n]]) (fun b=>b = uw) ?_
  conv=>whnf
  refine ⟨?_,fun b hbu=>?_⟩
  · repeat' first | (refine fun (b : Bool) hb=>?_; cases b <;> (first | exact absurd hb (by decide) | exact Bool.noConfusion (show true = false from hb) | exact Bool.noConfusion (show false = true from hb) | skip)) | fail
    all_goals (refine ⟨_,by refine wk_sel [some 0] rfl rfl ?_ ?_ <;> (repeat' (first | exact True.intro | exact rfl | exact Or.inl rfl | exact Or.inr rfl | refine And.intro ?_ ?_ | fail)),?_⟩; rw [← huw]; simp_all)
  obtain rfl : uw = b:=hbu.symm
  clear huw
  conv=>whnf
  refine join_live [1,3] (σ:=Bool) (fun b=>[(4,.bool b)]) (fun _=>[.box [.int .i64 k,.str s,.int .i64 n]]) (fun b=>b = un) ?_
  conv=>whnf
  refine ⟨?_,fun b hbu=>?_⟩
  · repeat' first | (refine fun (b : Bool) hb=>?_; cases b <;> (first | exact absurd hb (by decide) | exact Bool.noConfusion (show true = false from hb) | exact Bool.noConfusion (show false = true from hb) | skip)) | fail
    all_goals (refine ⟨_,by refine wk_sel [some 0] rfl rfl ?_ ?_ <;> (repeat' (first | exact True.intro | exact rfl | exact Or.inl rfl | exact Or.inr rfl | refine And.intro ?_ ?_ | fail)),?_⟩; rw [← hun]; simp_all)
  obtain rfl : un = b:=hbu.symm
  clear hun
  conv=>whnf
  refine join_live [1,3,4] (σ:=Unit) (fun b=>[]) (fun _=>[.box [.int .i64 k,.str s,.int .i64 n]]) (fun b=>¬ ((uw = false ∧ s ≠ []) ∨ (un = false ∧ n ≠ 0))) ?_
  conv=>whnf
  refine ⟨?_,fun _ h2=>?_⟩
  · repeat' first | (refine fun (b : Bool) hb=>?_; cases b <;> (first | exact absurd hb (by decide) | exact Bool.noConfusion (show true = false from hb) | exact Bool.noConfusion (show false = true from hb) | skip)) | fail
    all_goals (conv=>whnf)
    all_goals first
      | (refine ⟨(),(by (refine wk_sel [some 0] rfl rfl ?_ ?_ <;> (repeat' (first | exact True.intro | exact rfl | exact Or.inl rfl | exact Or.inr rfl | refine And.intro ?_ ?_ | fail)))),?_⟩; simp_all; done)
      | (refine hK _ ?_; rw [if_pos]; simp_all; done)
  simp only [h2,if_false] at hK
  conv=>whnf
  refine join_live [1,3] (σ:=Unit) (fun b=>[]) (fun _=>[.box [.int .i64 k,.str s,.int .i64 n]]) (fun b=>¬ (un = true ∧ (n < 1 ∨ 1000 < n))) ?_
  conv=>whnf
  refine ⟨?_,fun _ h3=>?_⟩
  · repeat' first | (refine fun (b : Bool) hb=>?_; cases b <;> (first | exact absurd hb (by decide) | exact Bool.noConfusion (show true = false from hb) | exact Bool.noConfusion (show false = true from hb) | skip)) | fail
    all_goals (conv=>whnf)
    all_goals first
      | (refine ⟨(),(by (refine wk_sel [some 0] rfl rfl ?_ ?_ <;> (repeat' (first | exact True.intro | exact rfl | exact Or.inl rfl | exact Or.inr rfl | refine And.intro ?_ ?_ | fail)))),?_⟩; simp_all; done)
      | (refine hK _ ?_; rw [if_pos]; simp_all; done)
  simp only [h3,if_false] at hK
  repeat' first | (refine fun (b : Bool) hb=>?_; cases b <;> (first | exact absurd hb (by decide) | exact Bool.noConfusion (show true = false from hb) | exact Bool.noConfusion (show false = true from hb) | skip)) | (refine fun (hl : _ ≤ MAXL)=>?_) | fail
  all_goals (conv=>whnf)
  any_goals first
      | (refine hK _ ?_; rw [if_pos]; simp_all; done)
      | (refine hK _ ?_; rw [if_neg]; simp_all; done)
  refine ⟨s,rfl,?_⟩
  repeat' first | (refine fun (b : Bool) hb=>?_; cases b <;> (first | exact absurd hb (by decide) | exact Bool.noConfusion (show true = false from hb) | exact Bool.noConfusion (show false = true from hb) | skip)) | (refine fun (hl : _ ≤ MAXL)=>?_) | fail
  all_goals (conv=>whnf)
  any_goals first
      | (refine hK _ ?_; rw [if_pos]; simp_all; done)
      | (refine hK _ ?_; rw [if_neg]; simp_all; done)
  · refine hK _ ?_
    rw [if_neg]
    grind
  · refine hK _ ?_
    rw [if_pos]
    grind
end Gv
namespace Gv
variable [Glob] [Laid]
theorem cline_ca : callable Tryz.prog 68 = true:=by kernel_rfl
def cline_S : Spec:=fun args K=>∃ (f : List Bs) (c : List Cmd) (t : Bs),args = [.agg [.sl strV f,.sl cmdV c,.str t]] ∧ K (.int .i64 (checkLine ⟨f,c,t⟩))
noncomputable def cline_lib : List (Nat × Spec):=[(132,ccheck_S),(78,word_S)]
noncomputable def cline_fns : List (Nat × FnI):=[(131,{fn:=Tryz.f131,hooks:=[],draws:=[]})]
noncomputable def cline_prims : List (Nat × PSpec):=[]
theorem cline_E : EnvOK ⟨Tryz.prog,tys,cline_lib,cline_fns,cline_prims,[]⟩:=env_ok mixed0 tys0 (.cons ccheck_ca ccheck_ok (.cons word_ca word_ok .nil)) (.cons (by kernel_rfl) ⟨Tryz.func131,by kernel_rfl,by kernel_rfl⟩ .nil) .nil rfl
set_option maxHeartbeats 4000000 in
theorem cline_ok : Pure Tryz.prog 68 cline_S:=by
  refine pure_by cline_E 6 (fi:={fn:=Tryz.f68,hooks:=[3],draws:=[(3,[0,1,3,0,8,24,63,127,0])]}) ⟨Tryz.func68,by kernel_rfl,by kernel_rfl⟩ ?_
  rintro _ K ⟨f,c,t,rfl,hK⟩
  replace hK : ∀ r,r = .int .i64 (checkLine ⟨f,c,t⟩) → K r:=fun r h=>h ▸ hK
  unfold checkLine at hK
  dsimp only at hK
  conv=>whnf
  refine join_live [1] (σ:=Unit) (fun b=>[]) (fun _=>[.box [.sl strV f,.sl cmdV c,.str t]]) (fun b=>¬ (f.length = 0 ∨ 4 < f.length ∨ 6 < c.length)) ?_
  conv=>whnf
  refine ⟨?_,fun _ h1=>?_⟩
  · repeat' first | (refine fun (b : Bool) hb=>?_; cases b <;> (first | exact absurd hb (by decide) | exact Bool.noConfusion (show true = false from hb) | exact Bool.noConfusion (show false = true from hb) | skip)) | (refine fun (hl : _ ≤ MAXL)=>?_) | fail
    all_goals (conv=>whnf)
    all_goals first
      | (refine ⟨(),(by (refine wk_sel [some 0] rfl rfl ?_ ?_ <;> (repeat' (first | exact True.intro | exact rfl | exact Or.inl rfl | exact Or.inr rfl | refine And.intro ?_ ?_ | fail)))),?_⟩; simp_all; omega)
      | (refine hK _ ?_; rw [if_pos]; simp_all; omega)
      | (refine hK _ ?_; rw [if_pos]; simp_all; done)
  rw [if_neg h1] at hK
  repeat' first | exact True.intro | refine ⟨_,⟨rfl,rfl⟩,?_⟩ | refine And.intro (a:=chkPast _ _ _ _ _ _ _ _) ?_ ?_ | fail
  conv=>whnf
  apply Exists.intro
  apply Exists.intro
  apply And.intro
  · repeat' first | (refine fun (b : Bool) hb=>?_; cases b <;> (first | exact absurd hb (by decide) | exact Bool.noConfusion (show true = false from hb) | exact Bool.noConfusion (show false = true from hb) | skip)) | refine And.intro (a:=_ ≤ 140737488355328) ?_ ?_ | refine ⟨(fun _=>rfl),?_⟩ | refine ⟨rfl,?_⟩ | fail
    · simp only [List.length_nil,List.length_map]
      omega
    · exact rfl
    · exfalso
      have h : true = true → f = []:=by assumption
      simp [h rfl] at h1
  repeat' first | exact True.intro | refine ⟨_,⟨rfl,rfl⟩,?_⟩ | refine And.intro (a:=chkPend _ _ _ _ _ _) ?_ ?_ | refine And.intro (a:=chkPast _ _ _ _ _ _ _ _) ?_ ?_ | refine ⟨⟨rfl,rfl⟩,?_⟩ | fail
  refine ⟨_,⟨Bs,strV,[t],LeL.refl _,rfl,rfl⟩,?_⟩
  refine ⟨_,_,⟨fun _=>rfl,?_,rfl,rfl⟩,?_⟩
  · simp only [List.length_nil,List.length_map,List.length_append,List.nil_append,elsOf,List.length_cons]
    omega
  have hels : [] ++ f.map strV ++ [t].map strV = (f ++ [t]).map strV:=by simp
  repeat' first | exact True.intro | refine ⟨_,⟨rfl,rfl⟩,?_⟩ | refine ⟨_,(fun _=>⟨rfl,rfl⟩),?_⟩ | refine And.intro (a:=chkPend _ _ _ _ _ _) ?_ ?_ | refine And.intro (a:=chkPast _ _ _ _ _ _ _ _) ?_ ?_ | fail
  rw [hels]
  generalize hg : f ++ [t] = g at hK hels ⊢
  have hgl : g.length ≤ 5:=by
    rw [← hg]
    simp only [List.length_append,List.length_cons,List.length_nil]
    omega
  conv=>whnf
  refine loop_live [1,30,31] (σ:=Nat) (fun i=>[(32,.int .i64 i)]) (fun _=>[.box [.sl strV f,.sl cmdV c,.str t],.dead,.dead,.row 1 (g.map strV)]) (fun i=>i ≤ g.length ∧ (g.take i).all isWord = true) (fun i=>g.length - i) 0 ?_
  conv=>whnf
  refine ⟨(by (refine wk_sel [some 0,some 1,some 2,some 3] rfl rfl ?_ ?_ <;> (repeat' (first | exact True.intro | exact rfl | exact Or.inl rfl | exact Or.inr rfl | refine And.intro ?_ ?_ | fail)))),⟨Nat.zero_le _,rfl⟩,fun i hi=>?_⟩
  obtain ⟨hi,hI⟩:=hi
  repeat' first | (refine fun (b : Bool) hb=>?_; cases b <;> (first | exact absurd hb (by decide) | exact Bool.noConfusion (show true = false from hb) | exact Bool.noConfusion (show false = true from hb) | skip)) | (refine fun (hl : _ ≤ MAXL)=>?_) | refine ⟨rfl,?_⟩ | fail
  · have e : g.take i = g:=List.take_of_length_le (by grind)
    rw [e] at hI
    simp only [hI] at hK
    conv=>whnf
    refine loop_live [41,42] (σ:=Nat) (fun i=>[(43,.int .i64 i)]) (fun _=>[.box [.sl strV f,.sl cmdV c,.str t],.dead,.dead,.row 1 (g.map strV)]) (fun i=>i ≤ c.length ∧ firstBad (c.drop i) = firstBad c) (fun i=>c.length - i) 0 ?_
    conv=>whnf
    refine ⟨(by (refine wk_sel [some 0,some 1,some 2,some 3] rfl rfl ?_ ?_ <;> (repeat' (first | exact True.intro | exact rfl | exact Or.inl rfl | exact Or.inr rfl | refine And.intro ?_ ?_ | fail)))),⟨Nat.zero_le _,rfl⟩,fun i hi=>?_⟩
    obtain ⟨hi,hJ⟩:=hi
    repeat' first | (refine fun (b : Bool) hb=>?_; cases b <;> (first | exact absurd hb (by decide) | exact Bool.noConfusion (show true = false from hb) | exact Bool.noConfusion (show false = true from hb) | skip)) | refine ⟨_,rfl,?_,rfl,?_⟩ | fail
    · refine hK _ ?_
      have e : c.drop i = []:=List.drop_eq_nil_of_le (by grind)
      rw [e] at hJ
      rw [← hJ]
      rfl
    · grind
    · have hi2 : i < c.length:=by grind
      have hd : c.drop i = c[i] :: c.drop (i + 1):=List.drop_eq_getElem_cons hi2
      rw [hd] at hJ
      refine ⟨c[i].kind,c[i].word,c[i].n,rfl,?_⟩
      have hb0 : firstBad (c[i] :: c.drop (i + 1)) = if checkCmd c[i] = 0 then firstBad (c.drop (i + 1)) else checkCmd c[i]:=rfl
      have hcc : checkCmd ⟨c[i].kind,c[i].word,c[i].n⟩ = checkCmd c[i]:=rfl
      rw [hcc]
      generalize checkCmd c[i] = e at hb0 ⊢
      repeat' first | (refine fun (b : Bool) hb=>?_; cases b <;> (first | exact absurd hb (by decide) | exact Bool.noConfusion (show true = false from hb) | exact Bool.noConfusion (show false = true from hb) | skip)) | refine And.intro (a:=I64 _) ?_ ?_ | fail
      · (first | omega | (unfold I64; omega) | (simp only [List.length_append,List.length_map,List.length_cons,List.length_nil,Nat.mul_one,Int.ofNat_eq_natCast] at *; omega) | (dsimp only at *; omega) | (unfold I64; dsimp only at *; omega) | (unfold I64; grind) | grind)
      · refine ⟨i + 1,(by (refine wk_sel [some 0,some 1,some 2,some 3] rfl rfl ?_ ?_ <;> (repeat' (first | exact True.intro | exact rfl | exact Or.inl rfl | exact Or.inr rfl | refine And.intro ?_ ?_ | fail)))),⟨by omega,?_⟩,by omega⟩
        rw [← hJ,hb0,if_pos (by grind)]
      · refine hK _ ?_
        have he : ¬ e = 0:=by grind
        rw [← hJ,hb0]
        simp [he]
  have hi2 : i < g.length:=by grind
  refine ⟨i,rfl,by simpa using hi2,?_⟩
  refine ⟨strV g[i],by simp [hi2],?_⟩
  refine ⟨g[i],rfl,?_⟩
  have hts : g.take (i + 1) = g.take i ++ [g[i]]:=List.take_succ_eq_append_getElem hi2
  repeat' first | (refine fun (b : Bool) hb=>?_; cases b <;> (first | exact absurd hb (by decide) | exact Bool.noConfusion (show true = false from hb) | exact Bool.noConfusion (show false = true from hb) | skip)) | refine And.intro (a:=I64 _) ?_ ?_ | fail
  · (first | omega | (unfold I64; omega) | (simp only [List.length_append,List.length_map,List.length_cons,List.length_nil,Nat.mul_one,Int.ofNat_eq_natCast] at *; omega) | (dsimp only at *; omega) | (unfold I64; dsimp only at *; omega) | (unfold I64; grind) | grind)
  · refine ⟨i + 1,(by (refine wk_sel [some 0,some 1,some 2,some 3] rfl rfl ?_ ?_ <;> (repeat' (first | exact True.intro | exact rfl | exact Or.inl rfl | exact Or.inr rfl | refine And.intro ?_ ?_ | fail)))),⟨by omega,?_⟩,by omega⟩
    rw [hts,List.all_append,hI]
    grind
  · refine hK _ ?_
    have h1 : g.all isWord = false:=by
      rw [List.all_eq_false]
      exact ⟨g[i],List.getElem_mem hi2,by grind⟩
    rw [if_pos h1]
end Gv
namespace Gv
variable [Glob] [Laid]
theorem scheckS_ca : callable Tryz.prog 81 = true:=by kernel_rfl
def scheckS_S : Spec:=fun args K=>∃ (l : List LineS),args = [.sl lineV l] ∧ K (.int .i64 (checkS l))
noncomputable def scheckS_lib : List (Nat × Spec):=[(68,cline_S)]
noncomputable def scheckS_fns : List (Nat × FnI):=[]
noncomputable def scheckS_prims : List (Nat × PSpec):=[]
theorem scheckS_E : EnvOK ⟨Tryz.prog,tys,scheckS_lib,scheckS_fns,scheckS_prims,[]⟩:=env_ok mixed0 tys0 (.cons cline_ca cline_ok .nil) .nil .nil rfl
set_option maxHeartbeats 4000000 in
theorem scheckS_ok : Pure Tryz.prog 81 scheckS_S:=by
  refine pure_by scheckS_E 6 (fi:={fn:=Tryz.f81,hooks:=[],draws:=[]}) ⟨Tryz.func81,by kernel_rfl,by kernel_rfl⟩ ?_
  rintro _ K ⟨l,rfl,hK⟩
  replace hK : ∀ r,r = .int .i64 (checkS l) → K r:=fun r h=>h ▸ hK
  unfold checkS at hK
  repeat' first | (refine fun (b : Bool) hb=>?_; cases b <;> (first | exact absurd hb (by decide) | exact Bool.noConfusion (show true = false from hb) | exact Bool.noConfusion (show false = true from hb) | skip)) | (refine fun (hl : _ ≤ MAXL)=>?_) | fail
  rotate_left
  · refine hK _ ?_
    rw [if_pos (by grind)]
  have h6 : ¬ 6 < l.length:=by grind
  rw [if_neg h6] at hK
  conv=>whnf
  refine loop_live [9,10] (σ:=Nat) (fun i=>[(11,.int .i64 i)]) (fun _=>[]) (fun i=>i ≤ l.length ∧ linesBad (l.drop i) = linesBad l) (fun i=>l.length - i) 0 ?_
  conv=>whnf
  refine ⟨(by (refine wk_auto ?_; refine Sel4.mk rfl rfl ?_ ?_ <;> (repeat' (first | exact True.intro | exact rfl | exact Or.inl rfl | exact Or.inr rfl | refine And.intro ?_ ?_ | fail)))),⟨Nat.zero_le _,rfl⟩,fun i hi=>?_⟩
  obtain ⟨hi,hI⟩:=hi
  repeat' first | (refine fun (b : Bool) hb=>?_; cases b <;> (first | exact absurd hb (by decide) | exact Bool.noConfusion (show true = false from hb) | exact Bool.noConfusion (show false = true from hb) | skip)) | refine ⟨_,rfl,?_,rfl,?_⟩ | fail
  · refine hK _ ?_
    have e : l.drop i = []:=List.drop_eq_nil_of_le (by grind)
    rw [e] at hI
    rw [← hI]
    rfl
  · grind
  have hi2 : i < l.length:=by grind
  have hd : l.drop i = l[i] :: l.drop (i + 1):=List.drop_eq_getElem_cons hi2
  rw [hd] at hI
  refine ⟨l[i].frm,l[i].cmds,l[i].to,rfl,?_⟩
  have hb0 : linesBad (l[i] :: l.drop (i + 1)) = if checkLine l[i] ≠ 0 then checkLine l[i] else linesBad (l.drop (i + 1)):=rfl
  rw [show checkLine ⟨l[i].frm,l[i].cmds,l[i].to⟩ = checkLine l[i] from rfl]
  generalize checkLine l[i] = e at hb0 ⊢
  repeat' first | (refine fun (b : Bool) hb=>?_; cases b <;> (first | exact absurd hb (by decide) | exact Bool.noConfusion (show true = false from hb) | exact Bool.noConfusion (show false = true from hb) | skip)) | refine And.intro (a:=I64 _) ?_ ?_ | fail
  · (first | omega | (unfold I64; omega) | (simp only [List.length_append,List.length_map,List.length_cons,List.length_nil,Nat.mul_one,Int.ofNat_eq_natCast] at *; omega) | (dsimp only at *; omega) | (unfold I64; dsimp only at *; omega) | (unfold I64; grind) | grind)
  · refine ⟨i + 1,(by (refine wk_auto ?_; refine Sel4.mk rfl rfl ?_ ?_ <;> (repeat' (first | exact True.intro | exact rfl | exact Or.inl rfl | exact Or.inr rfl | refine And.intro ?_ ?_ | fail)))),⟨by omega,?_⟩,by omega⟩
    rw [← hI,hb0,if_neg (by grind)]
  · refine hK _ ?_
    have he : e ≠ 0:=by grind
    rw [← hI,hb0,if_pos he]
end Gv
namespace Gv
variable [Glob] [Laid]
theorem copyF_ca : callable Tryz.prog 64 = true:=by kernel_rfl
def copyF_S : Spec:=fun args K=>∃ (l : List FileS),args = [.sl fileV l] ∧ (l.length ≤ 1000 ∧ ∀ f ∈ l,f.b.length ≤ 1000000) ∧ K (.sl fileV l)
noncomputable def copyF_lib : List (Nat × Spec):=[(66,cloneB_S)]
noncomputable def copyF_fns : List (Nat × FnI):=[(128,{fn:=Tryz.f128,hooks:=[],draws:=[]})]
noncomputable def copyF_prims : List (Nat × PSpec):=[]
theorem copyF_E : EnvOK ⟨Tryz.prog,tys,copyF_lib,copyF_fns,copyF_prims,[]⟩:=env_ok mixed0 tys0 (.cons cloneB_ca cloneB_ok .nil) (.cons (by kernel_rfl) ⟨Tryz.func128,by kernel_rfl,by kernel_rfl⟩ .nil) .nil rfl
set_option maxHeartbeats 8000000 in
theorem copyF_ok : Pure Tryz.prog 64 copyF_S:=by
  refine pure_by copyF_E 6 (fi:={fn:=Tryz.f64,hooks:=[2],draws:=[]}) ⟨Tryz.func64,by kernel_rfl,by kernel_rfl⟩ ?_
  rintro _ K ⟨l,rfl,⟨hl0,hfb⟩,hK⟩
  replace hK : ∀ r,r = .sl fileV l → K r:=fun r h=>h ▸ hK
  conv=>whnf
  refine join_live [] (σ:=Unit) (fun _=>[(0,.own 0)]) (fun _=>[.row 2 (l.map fileV)]) (fun _=>True) ?_
  conv=>whnf
  refine ⟨?_,fun _ _=>?_⟩
  · repeat' first | (refine fun (b : Bool) hb=>?_; cases b <;> (first | exact absurd hb (by decide) | exact Bool.noConfusion (show true = false from hb) | exact Bool.noConfusion (show false = true from hb) | skip)) | refine And.intro (a:=_ ≤ 140737488355328) ?_ ?_ | refine ⟨(fun _=>rfl),?_⟩ | fail
    · show (0 + (l.map fileV).length) * 40 ≤ 140737488355328
      rw [List.length_map]
      omega
    · exact ⟨(),(by (refine wk_auto ?_; refine Sel4.mk rfl rfl ?_ ?_ <;> (repeat' (first | exact True.intro | exact rfl | exact Or.inl rfl | exact Or.inr rfl | refine And.intro ?_ ?_ | fail)))),trivial⟩
    · have h : true = true → l = []:=by assumption
      rw [h rfl]
      exact ⟨(),(by (refine wk_auto ?_; refine Sel4.mk rfl rfl ?_ ?_ <;> (repeat' (first | exact True.intro | exact rfl | exact Or.inl rfl | exact Or.inr rfl | refine And.intro ?_ ?_ | fail)))),trivial⟩
  repeat' first | (refine fun (hl : _ ≤ MAXL)=>?_) | fail
  conv=>whnf
  refine loop_live [0,7,8] (σ:=Nat) (fun i=>[(9,.int .i64 i)]) (fun i=>[.row 2 (l.map fileV)]) (fun i=>i ≤ l.length) (fun i=>l.length - i) 0 ?_
  conv=>whnf
  refine ⟨(by (refine wk_auto ?_; refine Sel4.mk rfl rfl ?_ ?_ <;> (repeat' (first | exact True.intro | exact rfl | exact Or.inl rfl | exact Or.inr rfl | refine And.intro ?_ ?_ | fail)))),Nat.zero_le _,fun i hi=>?_⟩
  repeat' first | refine ⟨_,_,_,LeL.refl _,?_⟩ | (refine fun (b : Bool) hb=>?_; cases b <;> (first | exact absurd hb (by decide) | exact Bool.noConfusion (show true = false from hb) | exact Bool.noConfusion (show false = true from hb) | skip)) | refine ⟨rfl,?_⟩ | fail
  · conv=>whnf
    exact hK _ rfl
  have hlt : i < l.length:=by
    have h:=of_decide_eq_true (by assumption : decide ((i : Int) < ((l.map fileV).length : Int)) = true)
    rw [List.length_map] at h
    omega
  have hg : (l.map fileV)[i]? = some (fileV l[i]):=by rw [List.getElem?_map,List.getElem?_eq_getElem hlt]; rfl
  have hlm : i < (l.map fileV).length:=by rw [List.length_map]; exact hlt
  refine ⟨i,rfl,hlm,?_⟩
  conv=>whnf
  refine ⟨_,hg,?_⟩
  repeat' first | refine ⟨_,rfl,?_,rfl,?_⟩ | fail
  · exact hfb _ (List.getElem_mem hlt)
  refine ⟨i,rfl,hlm,?_⟩
  conv=>whnf
  refine ⟨_,hg,?_⟩
  repeat' first | refine And.intro (a:=I64 _) ?_ ?_ | fail
  · have hl1 : (l.map fileV).length ≤ MAXL:=by assumption
    unfold I64; omega
  refine ⟨i + 1,?_,hlt,by omega⟩
  (refine wk_auto ?_; refine Sel4.mk rfl rfl ?_ ?_ <;> (repeat' (first | exact True.intro | exact rfl | exact Or.inl rfl | exact Or.inr rfl | refine And.intro ?_ ?_ | fail)))
  have e : (l.map fileV).set i (fileV l[i]) = l.map fileV:=by
    have : (l.map fileV)[i]'hlm = fileV l[i]:=by simp
    rw [← this,List.set_getElem_self]
  show Row.row 2 (l.map fileV) = Row.row 2 ((l.map fileV).set i (fileV l[i]))
  rw [e]
end Gv
namespace Gv
variable [Glob] [Laid]
theorem containsB_ca : callable Tryz.prog 155 = true:=by kernel_rfl
def containsB_S : Spec:=fun args K=>∃ (l : List UInt8) (c : UInt8),args = [.sl byteV l,byteV c] ∧ K (.bool (l.contains c))
noncomputable def containsB_lib : List (Nat × Spec):=[]
noncomputable def containsB_fns : List (Nat × FnI):=[(208,{fn:=Tryz.f208,hooks:=[],draws:=[]})]
noncomputable def containsB_prims : List (Nat × PSpec):=[]
theorem containsB_E : EnvOK ⟨Tryz.prog,tys,containsB_lib,containsB_fns,containsB_prims,[]⟩:=env_ok mixed0 tys0 .nil (.cons (by kernel_rfl) ⟨Tryz.func208,by kernel_rfl,by kernel_rfl⟩ .nil) .nil rfl
set_option maxHeartbeats 4000000 in
theorem containsB_ok : Pure Tryz.prog 155 containsB_S:=by
  refine pure_by containsB_E 6 (fi:={fn:=Tryz.f155,hooks:=[],draws:=[]}) ⟨Tryz.func155,by kernel_rfl,by kernel_rfl⟩ ?_
  rintro _ K ⟨l,c,rfl,hK⟩
  replace hK : ∀ r,r = .bool (l.contains c) → K r:=fun r h=>h ▸ hK
  refine fun (hl : _ ≤ MAXL)=>?_
  conv=>whnf
  refine loop_live [0,1,7] (σ:=Nat) (fun i=>[(8,.int .i64 i)]) (fun i=>[]) (fun i=>i ≤ l.length ∧ c ∉ l.take i) (fun i=>l.length - i) 0 ?_
  conv=>whnf
  refine ⟨(by (refine wk_sel [] rfl rfl ?_ ?_ <;> (repeat' (first | exact True.intro | exact rfl | exact Or.inl rfl | exact Or.inr rfl | refine And.intro ?_ ?_ | fail)))),⟨Nat.zero_le _,by simp⟩,fun i hi=>?_⟩
  obtain ⟨hi,hc⟩:=hi
  repeat' first | (refine fun (b : Bool) hb=>?_; cases b <;> (first | exact absurd hb (by decide) | exact Bool.noConfusion (show true = false from hb) | exact Bool.noConfusion (show false = true from hb) | skip)) | refine And.intro (a:=I64 _) ?_ ?_ | refine ⟨_,rfl,?_,rfl,?_⟩ | fail
  · refine hK _ ?_
    have e : l.take i = l:=List.take_of_length_le (by grind)
    rw [e] at hc
    simp [hc]
  · grind
  · (first | omega | (unfold I64; omega) | (simp only [List.length_append,List.length_map,List.length_cons,List.length_nil,Nat.mul_one,Int.ofNat_eq_natCast] at *; omega) | (dsimp only at *; omega) | (unfold I64; dsimp only at *; omega) | (unfold I64; grind) | grind)
  · have hi2 : i < l.length:=by grind
    refine ⟨i + 1,(by (refine wk_sel [] rfl rfl ?_ ?_ <;> (repeat' (first | exact True.intro | exact rfl | exact Or.inl rfl | exact Or.inr rfl | refine And.intro ?_ ?_ | fail)))),⟨by grind,?_⟩,by grind⟩
    rw [List.take_succ_eq_append_getElem hi2]
    simp only [List.mem_append,List.mem_singleton,not_or]
    refine ⟨hc,fun e=>?_⟩
    subst e
    simp at *
  · have hi2 : i < l.length:=by grind
    refine hK _ ?_
    have e : c = l[i]:=by
      apply UInt8.toNat_inj.1
      grind
    have h1 : l.contains c = true:=by
      rw [e]
      simp
    have h2 : decide ((0 : Int) ≤ (i : Int)) = true:=by simp
    rw [h1,h2]
end Gv
namespace Gv
variable [Glob] [Laid]
theorem index1_ca : callable Tryz.prog 237 = true:=by kernel_rfl
def index1_S : Spec:=fun args K=>∃ (l : List UInt8),args = [.sl byteV l,.sl byteV [10]] ∧ K (.int .i64 (idxB l 10))
set_option maxHeartbeats 4000000 in
theorem index1_ok : Pure Tryz.prog 237 index1_S:=by
  refine pure_look fun w m args us K hm hg hl hv hT=>?_
  obtain ⟨l,rfl,hK⟩:=hT
  obtain ⟨a,b,rfl,ha,hb⟩:=args2 hl hv
  obtain ⟨p,c,rfl,hp,hlc,hc,hx⟩:=bytes_open ha hm
  obtain ⟨p2,c2,rfl,hp2,hlc2,hc2,hx2⟩:=bytes_open hb hm
  refine ⟨_,_,hK,.int,?_⟩
  match p2,hp2,hx2 with
  | none,hp2,_=>exact absurd (hp2 rfl).1 (by simp)
  | some ⟨b2,o2,sp2⟩,_,hx2 =>
    obtain ⟨h1,h2⟩:=hx2 b2 o2 sp2 rfl
    have hs : sp2 = none:=h1.resolve_right (by simp)
    subst hs
    have h3:=h2 0 (by simp)
    have h4 : w.cell? ⟨b2,o2,none⟩ = some (.int .u8 10):=by simpa [Addr.add,numsOf] using h3
    match p,hp,hx with
    | none,hp,_ =>
      obtain ⟨rfl,rfl⟩:=hp rfl
      exact (Tryz.bytes_Index_one_nil b2 o2 c2 10 w h4).mono fun e w' ⟨he,hw⟩=>⟨by rw [he]; rfl,by subst hw; exact Bel.refl _ _⟩
    | some ⟨b1,o1,sp1⟩,_,hx =>
      refine (Tryz.bytes_Index_one_at ⟨b1,o1,sp1⟩ l.length c b2 o2 c2 (numsOf l) 10 w (numsOf_length l) (fun i hi=>(hx b1 o1 sp1 rfl).2 i hi) h4).mono fun e w' ⟨he,hw⟩=>⟨by rw [he,bytesOf_nums]; rfl,by subst hw; exact Bel.refl _ _⟩
end Gv
namespace Gv
variable [Glob] [Laid]
theorem cut_idx (l : Bs) : (cutNl l).2.2 = decide (0 ≤ idxB l 10) ∧ (0 ≤ idxB l 10 → idxB l 10 + 1 ≤ l.length ∧ (cutNl l).1 = l.take (idxB l 10).toNat ∧ (cutNl l).2.1 = l.drop ((idxB l 10).toNat + 1)) ∧ (idxB l 10 < 0 → cutNl l = (l,[],false)):=by
  unfold idxB
  rcases nl_cases l with h | ⟨a,r,rfl,ha⟩
  · have e : Lib.indexByte l 10 = -1 := by
      induction l with
      | nil=>rfl
      | cons c l ih =>
        simp only [List.mem_cons,not_or] at h
        unfold Lib.indexByte
        rw [if_neg (by simpa using fun e=>h.1 (e.symm)),ih h.2]
        rfl
    rw [e,cutNl_no h]
    refine ⟨rfl,fun h=>by omega,fun _=>rfl⟩
  · have e : Lib.indexByte (a ++ 10 :: r) 10 = a.length := by
      induction a with
      | nil=>rfl
      | cons c a ih =>
        simp only [List.mem_cons,not_or] at ha
        show Lib.indexByte (c :: (a ++ 10 :: r)) 10 = _
        unfold Lib.indexByte
        rw [if_neg (by simpa using fun e=>ha.1 (e.symm)),ih ha.2,if_neg (by simp <;> omega)]
        simp
    rw [e,cutNl_nl ha]
    refine ⟨by simp,fun _=>⟨by simp <;> omega,by simp,?_⟩,fun h=>by omega⟩
    rw [Int.toNat_natCast,show a.length + 1 = (a ++ [10]).length by simp,show a ++ 10 :: r = (a ++ [10]) ++ r by simp,List.drop_left]
theorem cut_ca : callable Tryz.prog 204 = true:=by kernel_rfl
def cut_S : Spec:=fun args K=>∃ (l : List UInt8),args = [.sl byteV l,.sl byteV [10]] ∧ l.length ≤ 1000000 ∧ K (.tup [.sl byteV (cutNl l).1,.sl byteV (cutNl l).2.1,.bool (cutNl l).2.2])
noncomputable def cut_lib : List (Nat × Spec):=[(237,index1_S)]
noncomputable def cut_fns : List (Nat × FnI):=[]
noncomputable def cut_prims : List (Nat × PSpec):=[]
theorem cut_E : EnvOK ⟨Tryz.prog,tys,cut_lib,cut_fns,cut_prims,[]⟩:=env_ok mixed0 tys0 (.cons index1_ca index1_ok .nil) .nil .nil rfl
set_option maxHeartbeats 4000000 in
theorem cut_ok : Pure Tryz.prog 204 cut_S:=by
  refine pure_by cut_E 6 (fi:={fn:=Tryz.f204,hooks:=[],draws:=[(3,[0,0,3,0,0,0,32,112,248,7,1023,2047])]}) ⟨Tryz.func204,by kernel_rfl,by kernel_rfl⟩ ?_
  rintro _ K ⟨l,rfl,hz,hK⟩
  replace hK : ∀ r,r = .tup [.sl byteV (cutNl l).1,.sl byteV (cutNl l).2.1,.bool (cutNl l).2.2] → K r:=fun r h=>h ▸ hK
  obtain ⟨h1,h2,h3⟩:=cut_idx l
  refine ⟨l,rfl,?_⟩
  repeat' first | (refine fun (b : Bool) hb=>?_; cases b <;> (first | exact absurd hb (by decide) | exact Bool.noConfusion (show true = false from hb) | exact Bool.noConfusion (show false = true from hb) | skip)) | refine ⟨_,⟨rfl,rfl⟩,?_⟩ | refine ⟨UInt8,byteV,?_⟩ | fail
  · refine hK _ ?_
    rw [h3 (by grind)]
  have hi : 0 ≤ idxB l 10:=by grind
  obtain ⟨g1,g2,g3⟩:=h2 hi
  refine ⟨_,⟨fun _=>rfl,(idxB l 10).toNat,by omega,by omega,rfl,rfl⟩,?_⟩
  repeat' first | refine ⟨_,⟨rfl,rfl⟩,?_⟩ | refine ⟨_,And.intro (a:=I64 _) ?_ ⟨rfl,rfl⟩,?_⟩ | refine ⟨_,(fun _=>⟨rfl,rfl⟩),?_⟩ | fail
  · simp only [List.length_cons,List.length_nil]
    unfold I64
    omega
  refine ⟨_,⟨fun _=>rfl,(idxB l 10).toNat + 1,?_,by omega,rfl,rfl⟩,?_⟩
  · simp only [List.length_cons,List.length_nil]
    omega
  repeat' first | refine ⟨_,⟨rfl,rfl⟩,?_⟩ | fail
  refine hK _ ?_
  rw [g2,g3,h1,decide_eq_true hi]
end Gv
namespace Gv
variable [Glob] [Laid]
theorem of_ca : callable Tryz.prog 151 = true:=by kernel_rfl
def of_S : Spec:=fun args K=>∃ (b : Bs),args = [.sl byteV b] ∧ b.length ≤ 1000000 ∧ K (.sl strV (linesOf b))
noncomputable def of_lib : List (Nat × Spec):=[(204,cut_S)]
noncomputable def of_fns : List (Nat × FnI):=[]
noncomputable def of_prims : List (Nat × PSpec):=[]
theorem of_E : EnvOK ⟨Tryz.prog,tys,of_lib,of_fns,of_prims,[]⟩:=env_ok mixed0 tys0 (.cons cut_ca cut_ok .nil) .nil .nil rfl
set_option maxHeartbeats 4000000 in
theorem of_ok : Pure Tryz.prog 151 of_S:=by
  refine pure_by of_E 6 (fi:={fn:=Tryz.f151,hooks:=[],draws:=[]}) ⟨Tryz.func151,by kernel_rfl,by kernel_rfl⟩ ?_
  rintro _ K ⟨b0,rfl,hz,hK⟩
  conv=>whnf
  refine loop_live [] (σ:=List Bs × Bs) (fun s=>[(3,.own 0),(0,.sl byteV s.2)]) (fun s=>[.row 1 (s.1.map strV)]) (fun s=>s.1 ++ linesOf s.2 = linesOf b0 ∧ s.2.length + s.1.length ≤ 1000000) (fun s=>s.2.length) ([],b0) ?_
  conv=>whnf
  refine ⟨(by (refine wk_sel [none] rfl rfl ?_ ?_ <;> (repeat' (first | exact True.intro | exact rfl | exact Or.inl rfl | exact Or.inr rfl | refine And.intro ?_ ?_ | fail)))),⟨rfl,hz⟩,fun s hs=>?_⟩
  obtain ⟨l,b⟩:=s
  obtain ⟨h1,h2⟩:=hs
  replace h1 : l ++ linesOf b = linesOf b0:=h1
  replace h2 : b.length + l.length ≤ 1000000:=h2
  repeat' first | refine ⟨_,_,_,LeL.refl _,?_⟩ | (refine fun (b : Bool) hb=>?_; cases b <;> (first | exact absurd hb (by decide) | exact Bool.noConfusion (show true = false from hb) | exact Bool.noConfusion (show false = true from hb) | skip)) | (refine fun (hl : _ ≤ MAXL)=>?_) | fail
  · have : b = [] := by
      have h : decide (0 < (b.length : Int)) = false:=by assumption
      cases b with
      | nil=>rfl
      | cons c b=>simp at h <;> omega
    subst this
    rw [linesOf_nil,List.append_nil] at h1
    rw [h1]
    exact hK
  have hb0 : b ≠ []:=by
    intro e
    subst e
    have h : decide ((0 : Int) < (([] : Bs).length : Int)) = true:=by assumption
    simp at h
  have g1:=linesOf_cut hb0
  have g2:=cut_len hb0
  refine ⟨UInt8,byteV,[10],LeL.refl _,?_⟩
  refine ⟨b,rfl,by omega,?_⟩
  repeat' first | refine And.intro (a:=_ ≤ 140737488355328) ?_ ?_ | refine ⟨_,(fun _=>rfl),rfl,?_⟩ | refine ⟨rfl,?_⟩ | fail
  · simp only [List.length_map,List.length_cons,List.length_nil]
    have:=List.length_pos_iff.2 hb0
    omega
  · refine ⟨(l ++ [(cutNl b).1],(cutNl b).2.1),?_,⟨?_,?_⟩,g2.1⟩
    · refine wk_sel [some 3] rfl rfl ⟨?_,trivial⟩ ?_
      · rw [List.map_append]
        exact rfl
      · (repeat' (first | exact True.intro | exact rfl | exact Or.inl rfl | exact Or.inr rfl | refine And.intro ?_ ?_ | fail))
    · rw [← h1,g1,List.append_assoc]
      rfl
    · simp only [List.length_append,List.length_cons,List.length_nil]
      omega
end Gv
namespace Gv
variable [Glob] [Laid]
theorem linesL_ca : callable Tryz.prog 90 = true:=by kernel_rfl
def linesL_S : Spec:=fun args K=>∃ (b : Bs),args = [.sl byteV b] ∧ b.length ≤ 1000000 ∧ K (.sl strV (linesOf b))
noncomputable def linesL_lib : List (Nat × Spec):=[(151,of_S)]
noncomputable def linesL_fns : List (Nat × FnI):=[]
noncomputable def linesL_prims : List (Nat × PSpec):=[]
theorem linesL_E : EnvOK ⟨Tryz.prog,tys,linesL_lib,linesL_fns,linesL_prims,[]⟩:=env_ok mixed0 tys0 (.cons of_ca of_ok .nil) .nil .nil rfl
set_option maxHeartbeats 4000000 in
theorem linesL_ok : Pure Tryz.prog 90 linesL_S:=by
  refine pure_by linesL_E 6 (fi:={fn:=Tryz.f90,hooks:=[],draws:=[]}) ⟨Tryz.func90,by kernel_rfl,by kernel_rfl⟩ ?_
  rintro _ K ⟨b,rfl,hz,hK⟩
  replace hK : ∀ r,r = .sl strV (linesOf b) → K r:=fun r h=>h ▸ hK
  repeat' (first | exact True.intro | refine ⟨_,LeL.refl _,?_⟩ | refine ⟨_,_,_,LeL.refl _,?_⟩ | (refine fun (b : Bool) hb=>?_; cases b <;> (first | exact absurd hb (by decide) | exact Bool.noConfusion (show true = false from hb) | exact Bool.noConfusion (show false = true from hb) | skip)) | (refine fun (hl : _ ≤ MAXL)=>?_) | refine And.intro (a:=I64 _) ?_ ?_ | refine And.intro (a:=_ ≤ 140737488355328) ?_ ?_ | refine ⟨_,⟨rfl,rfl⟩,?_⟩ | refine ⟨_,And.intro (a:=I64 _) ?_ ⟨rfl,rfl⟩,?_⟩ | refine ⟨_,_,⟨rfl,rfl⟩,?_⟩ | refine ⟨_,(fun _=>⟨rfl,rfl⟩),?_⟩ | refine And.intro (a:=chkPend _ _ _ _ _ _) ?_ ?_ | refine And.intro (a:=chkPast _ _ _ _ _ _ _ _) ?_ ?_ | refine ⟨⟨rfl,rfl⟩,?_⟩ | refine And.intro (And.intro rfl rfl) ?_ | refine ⟨True.intro,?_⟩ | refine ⟨_,⟨_,rfl,?_,rfl,rfl,rfl⟩,?_⟩ | refine ⟨_,rfl,?_,rfl,?_⟩ | refine ⟨_,(fun _=>rfl),rfl,?_⟩ | refine ⟨(fun _=>rfl),?_⟩ | refine ⟨rfl,?_⟩ | refine Opt.a ?_ | fail)
  refine ⟨b,rfl,hz,?_⟩
  repeat' (first | exact True.intro | refine ⟨_,LeL.refl _,?_⟩ | refine ⟨_,_,_,LeL.refl _,?_⟩ | (refine fun (b : Bool) hb=>?_; cases b <;> (first | exact absurd hb (by decide) | exact Bool.noConfusion (show true = false from hb) | exact Bool.noConfusion (show false = true from hb) | skip)) | (refine fun (hl : _ ≤ MAXL)=>?_) | refine And.intro (a:=I64 _) ?_ ?_ | refine And.intro (a:=_ ≤ 140737488355328) ?_ ?_ | refine ⟨_,⟨rfl,rfl⟩,?_⟩ | refine ⟨_,And.intro (a:=I64 _) ?_ ⟨rfl,rfl⟩,?_⟩ | refine ⟨_,_,⟨rfl,rfl⟩,?_⟩ | refine ⟨_,(fun _=>⟨rfl,rfl⟩),?_⟩ | refine And.intro (a:=chkPend _ _ _ _ _ _) ?_ ?_ | refine And.intro (a:=chkPast _ _ _ _ _ _ _ _) ?_ ?_ | refine ⟨⟨rfl,rfl⟩,?_⟩ | refine And.intro (And.intro rfl rfl) ?_ | refine ⟨True.intro,?_⟩ | refine ⟨_,⟨_,rfl,?_,rfl,rfl,rfl⟩,?_⟩ | refine ⟨_,rfl,?_,rfl,?_⟩ | refine ⟨_,(fun _=>rfl),rfl,?_⟩ | refine ⟨(fun _=>rfl),?_⟩ | refine ⟨rfl,?_⟩ | refine Opt.a ?_ | fail)
  exact hK _ rfl
end Gv
namespace Gv
variable [Glob] [Laid]
theorem put_ca : callable Tryz.prog 93 = true:=by kernel_rfl
def put_S : Spec:=fun args K=>∃ l : List Bs,args = [.sl strV l] ∧ (put l).length ≤ 1000000 ∧ K (.sl byteV (put l))
noncomputable def put_lib : List (Nat × Spec):=[]
noncomputable def put_fns : List (Nat × FnI):=[]
noncomputable def put_prims : List (Nat × PSpec):=[]
theorem put_E : EnvOK ⟨Tryz.prog,tys,put_lib,put_fns,put_prims,[]⟩:=env_ok mixed0 tys0 .nil .nil .nil rfl
set_option maxHeartbeats 4000000 in
theorem put_ok : Pure Tryz.prog 93 put_S:=by
  refine pure_by put_E 6 (fi:={fn:=Tryz.f93,hooks:=[],draws:=[]}) ⟨Tryz.func93,by kernel_rfl,by kernel_rfl⟩ ?_
  rintro _ K ⟨l,rfl,hb,hK⟩
  refine fun (hl : _ ≤ MAXL)=>?_
  conv=>whnf
  refine loop_live [6,7] (σ:=Nat) (fun i=>[(3,.own 0),(8,.int .i64 i)]) (fun i=>[.row 1 ((put (l.take i)).map byteV)]) (fun i=>i ≤ l.length) (fun i=>l.length - i) 0 ?_
  conv=>whnf
  refine ⟨(by (refine wk_sel [none] rfl rfl ?_ ?_ <;> (repeat' (first | exact True.intro | exact rfl | exact Or.inl rfl | exact Or.inr rfl | refine And.intro ?_ ?_ | fail)))),Nat.zero_le _,fun i hi=>?_⟩
  have h1:=put_take_le l i
  have h2:=put_take_le l (i + 1)
  repeat' first | refine ⟨_,_,_,LeL.refl _,?_⟩ | (refine fun (b : Bool) hb=>?_; cases b <;> (first | exact absurd hb (by decide) | exact Bool.noConfusion (show true = false from hb) | exact Bool.noConfusion (show false = true from hb) | skip)) | refine And.intro (a:=I64 _) ?_ ?_ | refine And.intro (a:=_ ≤ 140737488355328) ?_ ?_ | refine ⟨_,rfl,?_,rfl,?_⟩ | refine ⟨rfl,?_⟩ | fail
  · rw [List.take_of_length_le (by grind)]
    exact hK
  · grind
  · rw [put_take_succ (by grind)] at h2
    simp only [List.length_append,List.length_map,List.length_cons,List.length_nil,Nat.mul_one] at *
    omega
  · rw [put_take_succ (by grind)] at h2
    simp only [List.length_append,List.length_map,List.length_cons,List.length_nil,Nat.mul_one] at *
    omega
  · (first | omega | (unfold I64; omega) | (simp only [List.length_append,List.length_map,List.length_cons,List.length_nil,Nat.mul_one,Int.ofNat_eq_natCast] at *; omega) | (dsimp only at *; omega) | (unfold I64; dsimp only at *; omega) | (unfold I64; grind) | grind)
  · refine ⟨i + 1,?_,by grind,by grind⟩
    refine wk_sel [some 3] rfl rfl ⟨?_,trivial⟩ ?_
    · rw [put_take_succ (by grind),List.map_append,List.map_append,← List.append_assoc]
      exact rfl
    · (repeat' (first | exact True.intro | exact rfl | exact Or.inl rfl | exact Or.inr rfl | refine And.intro ?_ ?_ | fail))
end Gv
namespace Gv
variable [Glob] [Laid]
theorem gather_ca : callable Tryz.prog 39 = true:=by kernel_rfl
def gather_S : Spec:=fun args K=>∃ (l : List FileS) (f : List Bs),args = [.sl fileV l,.sl strV f] ∧ K (.tup [.sl byteV (gatherS l f).1,.int .i64 (gatherS l f).2])
noncomputable def gather_lib : List (Nat × Spec):=[(32,cfiles_S),(77,bytesF_S),(90,linesL_S),(93,put_S)]
noncomputable def gather_fns : List (Nat × FnI):=[]
noncomputable def gather_prims : List (Nat × PSpec):=[]
theorem gather_E : EnvOK ⟨Tryz.prog,tys,gather_lib,gather_fns,gather_prims,[]⟩:=env_ok mixed0 tys0 (.cons cfiles_ca cfiles_ok (.cons bytesF_ca bytesF_ok (.cons linesL_ca linesL_ok (.cons put_ca put_ok .nil)))) .nil .nil rfl
set_option maxHeartbeats 8000000 in
theorem gather_ok : Pure Tryz.prog 39 gather_S:=by
  refine pure_by gather_E 6 (fi:={fn:=Tryz.f39,hooks:=[],draws:=[]}) ⟨Tryz.func39,by kernel_rfl,by kernel_rfl⟩ ?_
  rintro _ K ⟨l,f,rfl,hK⟩
  replace hK : ∀ r,r = .tup [.sl byteV (gatherS l f).1,.int .i64 (gatherS l f).2] → K r:=fun r h=>h ▸ hK
  have hone : ∀ r : Bs × Int,gatherS l f = r → K (.tup [.sl byteV r.1,.int .i64 r.2]):=fun r h=>hK _ (by rw [h])
  unfold gatherS at hone
  refine ⟨l,rfl,?_⟩
  obtain ⟨e,he⟩ : ∃ e,checkFiles l = e:=⟨_,rfl⟩
  rw [he] at hone ⊢
  repeat' first | (refine fun (b : Bool) hb=>?_; cases b <;> (first | exact absurd hb (by decide) | exact Bool.noConfusion (show true = false from hb) | exact Bool.noConfusion (show false = true from hb) | skip)) | (refine fun (hl : _ ≤ MAXL)=>?_) | fail
  · have h0 : e = 0 := by
      have h : (!decide (e = 0)) = false:=by assumption
      simpa using h
    subst h0
    have hf4 : ¬ (4 : Int) < (f.length : Int):=of_decide_eq_false (by assumption)
    rw [if_neg (by simp),if_neg (by omega)] at hone
    have hfb:=(checkFiles_ok he).2
    have hwl : ∀ s,(whole (fileAt l s)).length ≤ 4001:=fun s=>by
      have h1:=fileAt_len (fun f hf=>(hfb f hf).2) s
      have h2:=whole_len (fileAt l s)
      omega
    skip
    conv=>whnf
    refine loop_live [0,19,20] (σ:=Nat × Bs) (fun s=>[(21,.int .i64 s.1),(7,.own 0)]) (fun s=>[.row 1 (s.2.map byteV)]) (fun s=>s.1 ≤ f.length ∧ gatherGo l s.2 (f.drop s.1) = gatherGo l [] f ∧ s.2.length ≤ 4000) (fun s=>f.length - s.1) (0,[]) ?_
    conv=>whnf
    refine ⟨(by (refine wk_auto ?_; refine Sel4.mk rfl rfl ?_ ?_ <;> (repeat' (first | exact True.intro | exact rfl | exact Or.inl rfl | exact Or.inr rfl | refine And.intro ?_ ?_ | fail)))),⟨Nat.zero_le _,rfl,by simp⟩,fun s hs=>?_⟩
    obtain ⟨i,out⟩:=s
    obtain ⟨hi,hg,ho⟩:=hs
    dsimp only at hi hg ho
    repeat' first | refine ⟨_,_,_,LeL.refl _,?_⟩ | (refine fun (b : Bool) hb=>?_; cases b <;> (first | exact absurd hb (by decide) | exact Bool.noConfusion (show true = false from hb) | exact Bool.noConfusion (show false = true from hb) | skip)) | refine ⟨_,rfl,?_,rfl,?_⟩ | fail
    · have hge : ¬ (i : Int) < (f.length : Int):=of_decide_eq_false (by assumption)
      have e : f.drop i = []:=List.drop_eq_nil_of_le (by omega)
      rw [e] at hg
      conv=>whnf
      exact hone _ hg.symm
    · have h:=of_decide_eq_true (by assumption : decide ((i : Int) < (f.length : Int)) = true)
      show i < f.length
      omega
    have hlt : i < f.length:=by
      have h:=of_decide_eq_true (by assumption : decide ((i : Int) < (f.length : Int)) = true)
      omega
    rw [List.drop_eq_getElem_cons hlt,gatherGo] at hg
    have hw:=hwl f[i]
    refine ⟨l,f[i],rfl,fun g hgm=>by have:=(hfb g hgm).2; omega,?_⟩
    refine ⟨fileAt l f[i],rfl,by have:=fileAt_len (fun f hf=>(hfb f hf).2) f[i]; omega,?_⟩
    refine ⟨linesOf (fileAt l f[i]),rfl,by unfold whole at hw; omega,?_⟩
    have hwe : put (linesOf (fileAt l f[i])) = whole (fileAt l f[i]):=rfl
    have hom : ((out.map byteV).length : Int) = (out.length : Int):=by rw [List.length_map]
    repeat' first | (refine fun (b : Bool) hb=>?_; cases b <;> (first | exact absurd hb (by decide) | exact Bool.noConfusion (show true = false from hb) | exact Bool.noConfusion (show false = true from hb) | skip)) | (refine fun (hl : _ ≤ MAXL)=>?_) | refine And.intro (a:=I64 _) ?_ ?_ | refine And.intro (a:=_ ≤ 140737488355328) ?_ ?_ | refine ⟨(fun _=>rfl),?_⟩ | fail
    · show I64 (4000 - ((out.map byteV).length : Int))
      rw [hom]
      unfold I64; omega
    · show ((out.map byteV).length + ((put (linesOf (fileAt l f[i]))).map byteV).length) * 1 ≤ 140737488355328
      rw [List.length_map,List.length_map,hwe]
      omega
    · unfold I64
      dsimp only
      omega
    · have h : ¬ ((4000 : Int) - ((out.map byteV).length : Int) < ((put (linesOf (fileAt l f[i]))).length : Int)):=of_decide_eq_false (by assumption)
      rw [hom,hwe] at h
      rw [if_neg (by omega)] at hg
      refine ⟨(i + 1,out ++ whole (fileAt l f[i])),?_,⟨hlt,hg,by show (out ++ _).length ≤ 4000; rw [List.length_append]; omega⟩,by show f.length - (i + 1) < f.length - i; omega⟩
      (refine wk_auto ?_; refine Sel4.mk rfl rfl ?_ ?_ <;> (repeat' (first | exact True.intro | exact rfl | exact Or.inl rfl | exact Or.inr rfl | refine And.intro ?_ ?_ | fail)))
      show Row.row 1 _ = Row.row 1 _
      rw [List.map_append]
      rfl
    · have h : ((4000 : Int) - ((out.map byteV).length : Int) < ((put (linesOf (fileAt l f[i]))).length : Int)):=of_decide_eq_true (by assumption)
      rw [hom,hwe] at h
      rw [if_pos (by omega)] at hg
      skip
      refine ⟨_,byteV,hone _ hg.symm⟩
  · have h0 : e = 0 := by
      have h : (!decide (e = 0)) = false:=by assumption
      simpa using h
    subst h0
    have hf4 : (4 : Int) < (f.length : Int):=of_decide_eq_true (by assumption)
    rw [if_neg (by simp),if_pos (by omega)] at hone
    skip
    exact ⟨_,byteV,hone _ rfl⟩
  · have h0 : ¬ e = 0 := by
      have h : (!decide (e = 0)) = true:=by assumption
      simpa using h
    rw [if_pos h0] at hone
    skip
    exact ⟨_,byteV,hone _ rfl⟩
end Gv
namespace Gv
variable [Glob] [Laid]
theorem containsS_ca : callable Tryz.prog 147 = true:=by kernel_rfl
def containsS_S : Spec:=fun args K=>∃ (s sub : Bs),args = [.str s,.str sub] ∧ s.length < 4294967281 ∧ K (.bool (Lib.contains s sub))
set_option maxHeartbeats 4000000 in
theorem containsS_ok : Pure Tryz.prog 147 containsS_S:=by
  intro w m args us K hm hg hv hT
  obtain ⟨s,sub,rfl,h1,hK⟩:=hT
  obtain ⟨a,b,rfl,ha,hb⟩:=args2 hv.1 hv.2
  obtain ⟨rfl,-⟩:=vr_str ha
  obtain ⟨rfl,-⟩:=vr_str hb
  obtain ⟨n,hn⟩:=Laid.maxlen w (fun b o e=>hm b o (hg b o e))
  refine (Tryz.strings_Contains (ba s) (ba sub) n w (by rw [ba_size]; exact h1) hn).mono fun e w' ⟨he,hw⟩=>?_
  subst hw
  exact ⟨_,_,he,Bel.refl _ _,hK,.bool⟩
end Gv
namespace Gv
variable [Glob] [Laid]
theorem replaceS_ca : callable Tryz.prog 206 = true:=by kernel_rfl
def replaceS_S : Spec:=fun args K=>∃ (s old new : Bs),args = [.str s,.str old,.str new] ∧ (s.length < 4294967281 ∧ 1 ≤ old.length ∧ s.length + Lib.count s old * new.length ≤ 140737488355328 ∧ (Lib.replaceAll s old new).length ≤ MAXL) ∧ K (.str (Lib.replaceAll s old new))
set_option maxHeartbeats 4000000 in
theorem replaceS_ok : Pure Tryz.prog 206 replaceS_S:=by
  intro w m args us K hm hg hv hT
  obtain ⟨s,old,new,rfl,⟨h1,h2,h3,h4⟩,hK⟩:=hT
  obtain ⟨a,b,c,rfl,ha,hb,hc⟩:=args3 hv.1 hv.2
  obtain ⟨rfl,-⟩:=vr_str ha
  obtain ⟨rfl,-⟩:=vr_str hb
  obtain ⟨rfl,-⟩:=vr_str hc
  obtain ⟨n,hn⟩:=Laid.maxlen w (fun b o e=>hm b o (hg b o e))
  refine (Tryz.strings_ReplaceAll (ba s) (ba old) (ba new) n w (by rw [ba_size]; exact h1) hn (by rw [ba_size]; exact h2) (by rw [ba_size,ba_size]; exact h3)).mono fun e w' ⟨he,hw⟩=>?_
  exact ⟨_,_,he,Bel.of_below hw,hK,.str h4⟩
end Gv
namespace Gv
variable [Glob] [Laid]
theorem splitS_ca : callable Tryz.prog 148 = true:=by kernel_rfl
def splitS_S : Spec:=fun args K=>∃ (s sep : Bs),args = [.str s,.str sep] ∧ (s.length < 4294967281 ∧ 1 ≤ sep.length) ∧ K (.sl strV (Lib.split s sep))
set_option maxHeartbeats 4000000 in
theorem splitS_ok : Pure Tryz.prog 148 splitS_S:=by
  intro w m args us K hm hg hv hT
  obtain ⟨s,sep,rfl,⟨h1,h2⟩,hK⟩:=hT
  obtain ⟨a,b,rfl,ha,hb⟩:=args2 hv.1 hv.2
  obtain ⟨rfl,-⟩:=vr_str ha
  obtain ⟨rfl,-⟩:=vr_str hb
  obtain ⟨n,hn⟩:=Laid.maxlen w (fun b o e=>hm b o (hg b o e))
  refine (Tryz.strings_Split (ba s) (ba sep) n w (by rw [ba_size]; exact h1) hn (by rw [ba_size]; exact h2)).mono fun e w' ⟨he,hw⟩=>?_
  subst hw
  rw [split_cells] at *
  have hc : Lib.countB (ba s) (ba sep) + 1 = (Lib.split s sep).length:=(split_len s sep h2).symm
  have hle : (Lib.split s sep).length ≤ s.length + 2:=by
    rw [← hc]
    have:=Lib.count_le s sep
    show Lib.count s sep + 1 ≤ _
    omega
  refine ⟨_,_,by rw [he,hc],Bel.alloc [] w _,hK,strs_new (Gw.heap_alloc_new w _) (by unfold MAXL; omega) fun x hx=>?_⟩
  have:=splitK_le sep _ s x hx
  unfold MAXL
  omega
end Gv
namespace Gv
variable [Glob] [Laid]
def swp (l : Bs) (i : Nat) : Bs:=(List.range l.length).map fun k=>if k < i ∨ l.length - 1 - k < i then l.getD (l.length - 1 - k) 0 else l.getD k 0
theorem swp_len (l : Bs) (i : Nat) : (swp l i).length = l.length:=by simp [swp]
theorem swp_0 (l : Bs) : swp l 0 = l:=by
  refine List.ext_getElem (by simp [swp]) fun i h1 h2=>?_
  simp [swp,h2]
theorem swp_end (l : Bs) (i : Nat) (h : l.length ≤ 2 * i + 1) : swp l i = l.reverse:=by
  refine List.ext_getElem (by simp [swp]) fun k h1 h2=>?_
  have hk : k < l.length:=by simpa using h2
  simp only [swp,List.getElem_map,List.getElem_range,List.getElem_reverse]
  by_cases hc : k < i ∨ l.length - 1 - k < i
  · rw [if_pos hc,List.getD_eq_getElem?_getD,List.getElem?_eq_getElem (by omega)]
    rfl
  · rw [if_neg hc,List.getD_eq_getElem?_getD,List.getElem?_eq_getElem hk]
    have e : l.length - 1 - k = k:=by omega
    simp only [e]
    rfl
theorem swp_next (l : Bs) (i : Nat) (h : 2 * i + 1 < l.length) : ((swp l i).set i (l.getD (l.length - 1 - i) 0)).set (l.length - 1 - i) (l.getD i 0) = swp l (i + 1):=by
  refine List.ext_getElem (by simp [swp]) fun k h1 h2=>?_
  have hk : k < l.length:=by simpa [swp] using h2
  rw [List.getElem_set,List.getElem_set]
  simp only [swp,List.getElem_map,List.getElem_range]
  by_cases e1 : l.length - 1 - i = k
  · rw [if_pos e1,if_pos (by omega)]
    have : l.length - 1 - k = i:=by omega
    rw [this]
  · rw [if_neg e1]
    by_cases e2 : i = k
    · rw [if_pos e2,if_pos (by omega),e2]
    · rw [if_neg e2]
      by_cases hc : k < i ∨ l.length - 1 - k < i
      · rw [if_pos hc,if_pos (by omega)]
      · rw [if_neg hc,if_neg (by omega)]
theorem swp_at (l : Bs) (i k : Nat) (hk : k < l.length) (h : ¬ (k < i ∨ l.length - 1 - k < i)) : (swp l i)[k]? = some (l.getD k 0):=by
  unfold swp
  rw [List.getElem?_map,List.getElem?_range hk]
  simp only [Option.map_some]
  rw [if_neg h]
theorem revB_ca : callable Tryz.prog 207 = true:=by kernel_rfl
def revB_P : PSpec:=fun args rows K=>∃ (l : Bs),args = [.own 0] ∧ rows = [.row 1 (l.map byteV)] ∧ l.length ≤ 1000000 ∧ K (.tup []) [.row 1 (l.reverse.map byteV)]
noncomputable def revB_lib : List (Nat × Spec):=[]
noncomputable def revB_fns : List (Nat × FnI):=[]
noncomputable def revB_prims : List (Nat × PSpec):=[]
theorem revB_E : EnvOK ⟨Tryz.prog,tys,revB_lib,revB_fns,revB_prims,[]⟩:=env_ok mixed0 tys0 .nil .nil .nil rfl
set_option maxHeartbeats 4000000 in
theorem revB_prim : PrimOK Tryz.prog 207 revB_P:=by
  refine prim_by revB_E 6 revB_ca (fi:={fn:=Tryz.f207,hooks:=[],draws:=[(3,[0,0,0,0,0,0,48,112,0,0,768,1792,4083,8179,16383,32767])]}) ⟨Tryz.func207,by kernel_rfl,by kernel_rfl⟩ ?_
  rintro args rows K ⟨l,rfl,rfl,hz,hK⟩
  repeat' first | (refine fun (hl : _ ≤ MAXL)=>?_) | refine And.intro (a:=I64 _) ?_ ?_ | fail
  · (first | omega | (unfold I64; omega) | (simp only [List.length_append,List.length_map,List.length_cons,List.length_nil,Nat.mul_one,Int.ofNat_eq_natCast] at *; omega) | (dsimp only at *; omega) | (unfold I64; dsimp only at *; omega) | (unfold I64; grind) | grind)
  conv=>whnf
  refine loop_live [0] (σ:=Nat × Int × Bs) (fun s=>[(2,.int .i64 s.1),(3,.int .i64 s.2.1)]) (fun s=>[.row 1 (s.2.2.map byteV)]) (fun s=>s.2.1 = (l.length : Int) - 1 - s.1 ∧ s.2.2 = swp l s.1 ∧ 2 * s.1 ≤ l.length + 1) (fun s=>l.length + 1 - s.1) (0,((l.map byteV).length : Int) - 1,l) ?_
  conv=>whnf
  refine ⟨(by (refine wk_auto ?_; refine Sel4.mk rfl rfl ?_ ?_ <;> (repeat' (first | exact True.intro | exact rfl | exact Or.inl rfl | exact Or.inr rfl | refine And.intro ?_ ?_ | fail)))),⟨by simp,(swp_0 l).symm,by omega⟩,fun s hs=>?_⟩
  obtain ⟨i,j,d⟩:=s
  obtain ⟨hj,hd,hi⟩:=hs
  dsimp only at hj hd hi
  have hdl : d.length = l.length:=by rw [hd,swp_len]
  repeat' first | (refine fun (b : Bool) hb=>?_; cases b <;> (first | exact absurd hb (by decide) | exact Bool.noConfusion (show true = false from hb) | exact Bool.noConfusion (show false = true from hb) | skip)) | refine ⟨_,⟨rfl,rfl⟩,?_⟩ | fail
  · have hij : ¬ (i : Int) < j:=of_decide_eq_false (by assumption)
    have : d = l.reverse:=by rw [hd,swp_end _ _ (by omega)]
    rw [this]
    conv=>whnf
    exact hK
  have hij : (i : Int) < j:=of_decide_eq_true (by assumption)
  obtain ⟨k,hk⟩ : ∃ k : Nat,j = k:=⟨j.toNat,by omega⟩
  subst hk
  have hkl : k < d.length:=by omega
  have hil : i < d.length:=by omega
  have gk : (List.map byteV d)[k]? = some (byteV d[k]):=by rw [List.getElem?_map,List.getElem?_eq_getElem hkl]; rfl
  have gi : (List.map byteV d)[i]? = some (byteV d[i]):=by rw [List.getElem?_map,List.getElem?_eq_getElem hil]; rfl
  refine ⟨_,⟨rfl,k,rfl,by simpa using hkl,⟨rfl,rfl⟩⟩,?_⟩
  repeat' first | exact True.intro | refine And.intro (a:=chkPast _ _ _ _ _ _ _ _) ?_ ?_ | fail
  conv=>whnf
  refine ⟨_,⟨_,gk,⟨rfl,rfl⟩⟩,?_⟩
  repeat' first | exact True.intro | refine ⟨_,⟨rfl,rfl⟩,?_⟩ | refine And.intro (a:=chkPast _ _ _ _ _ _ _ _) ?_ ?_ | fail
  conv=>whnf
  refine ⟨_,⟨rfl,i,rfl,by simpa using hil,⟨rfl,rfl⟩⟩,?_⟩
  repeat' first | exact True.intro | refine And.intro (a:=chkPast _ _ _ _ _ _ _ _) ?_ ?_ | fail
  conv=>whnf
  refine ⟨_,⟨_,gi,⟨rfl,rfl⟩⟩,?_⟩
  repeat' first | exact True.intro | refine And.intro (a:=chkPast _ _ _ _ _ _ _ _) ?_ ?_ | fail
  conv=>whnf
  refine ⟨_,⟨rfl,i,rfl,by simpa using hil,⟨rfl,rfl⟩⟩,?_⟩
  repeat' first | exact True.intro | refine And.intro (a:=chkPast _ _ _ _ _ _ _ _) ?_ ?_ | fail
  refine ⟨_,_,⟨by simpa using hil,rfl,rfl⟩,?_⟩
  repeat' first | exact True.intro | refine And.intro (a:=chkPend _ _ _ _ _ _) ?_ ?_ | fail
  conv=>whnf
  refine ⟨_,⟨rfl,k,rfl,by simpa using hkl,⟨rfl,rfl⟩⟩,?_⟩
  repeat' first | exact True.intro | refine And.intro (a:=chkPast _ _ _ _ _ _ _ _) ?_ ?_ | fail
  conv=>whnf
  refine ⟨_,_,⟨by simpa using hkl,rfl,rfl⟩,?_⟩
  repeat' first | exact True.intro | refine And.intro (a:=I64 _) ?_ ?_ | refine And.intro (a:=chkPend _ _ _ _ _ _) ?_ ?_ | fail
  · unfold I64
    dsimp only
    omega
  · unfold I64
    dsimp only
    omega
  have ek : k = l.length - 1 - i:=by omega
  have e1 : d[k] = l.getD k 0:=by
    have h:=swp_at l i k (by omega) (by omega)
    rw [← hd,List.getElem?_eq_getElem hkl] at h
    exact Option.some.inj h
  have e2 : d[i] = l.getD i 0:=by
    have h:=swp_at l i i (by omega) (by omega)
    rw [← hd,List.getElem?_eq_getElem hil] at h
    exact Option.some.inj h
  refine ⟨(i + 1,(k : Int) - 1,(d.set i d[k]).set k d[i]),?_,⟨?_,?_,?_⟩,?_⟩
  rotate_left
  · show (k : Int) - 1 = (l.length : Int) - 1 - ((i + 1 : Nat) : Int)
    omega
  · show (d.set i d[k]).set k d[i] = swp l (i + 1)
    rw [e1,e2,hd,ek]
    exact swp_next l i (by omega)
  · show 2 * (i + 1) ≤ l.length + 1
    omega
  · show l.length + 1 - (i + 1) < l.length + 1 - i
    omega
  (refine wk_auto ?_; refine Sel4.mk rfl rfl ?_ ?_ <;> (repeat' (first | exact True.intro | exact rfl | exact Or.inl rfl | exact Or.inr rfl | refine And.intro ?_ ?_ | fail)))
  all_goals try (show Row.row 1 _ = Row.row 1 _)
  simp [List.map_set]
end Gv
namespace Gv
variable [Glob] [Laid]
theorem one_ca : callable Tryz.prog 154 = true:=by kernel_rfl
def one_S : Spec:=fun args K=>∃ (c : Cmd) (s : Bs),args = [cmdV c,.str s] ∧ (checkCmd c = 0 ∧ s.length ≤ 900000) ∧ K (.tup [.str (oneC c s).1,.bool (oneC c s).2])
noncomputable def one_lib : List (Nat × Spec):=[(147,containsS_S),(206,replaceS_S),(148,splitS_S)]
noncomputable def one_fns : List (Nat × FnI):=[]
noncomputable def one_prims : List (Nat × PSpec):=[(207,revB_P)]
theorem one_E : EnvOK ⟨Tryz.prog,tys,one_lib,one_fns,one_prims,[]⟩:=env_ok mixed0 tys0 (.cons containsS_ca containsS_ok (.cons replaceS_ca replaceS_ok (.cons splitS_ca splitS_ok .nil))) .nil (.cons revB_prim .nil) rfl
set_option maxHeartbeats 4000000 in
theorem one_ok : Pure Tryz.prog 154 one_S:=by
  refine pure_by one_E 6 (fi:={fn:=Tryz.f154,hooks:=[],draws:=[(7,[0,0,2,6,0,16,48,127,255,511])]}) ⟨Tryz.func154,by kernel_rfl,by kernel_rfl⟩ ?_
  rintro _ K ⟨c,s,rfl,⟨hc,hs⟩,hK⟩
  replace hK : ∀ r,r = .tup [.str (oneC c s).1,.bool (oneC c s).2] → K r:=fun r h=>h ▸ hK
  have hsw:=@splitK_sz [32] (Lib.count s [32]) s
  have hsn : 0 < (Lib.split s [32]).length:=List.length_pos_iff.2 (split_ne s [32])
  have hcn : c.kind = 4 → 1 ≤ c.n:=fun h=>by
    unfold checkCmd useN at hc
    grind
  have hcw:=@word2 c hc
  have hsl : (Lib.split s [32]).length ≤ 1000000:=by
    rw [split_len _ _ (by decide),Lib.count_one]
    have:=List.count_le_length (a:=(32 : UInt8)) (l:=s)
    omega
  have hone : ∀ r : Bs × Bool,oneC c s = r → K (.tup [.str r.1,.bool r.2]):=fun r h=>hK _ (by rw [h])
  unfold oneC at hone
  repeat' first | exact True.intro | (refine fun (b : Bool) hb=>?_; cases b <;> (first | exact absurd hb (by decide) | exact Bool.noConfusion (show true = false from hb) | exact Bool.noConfusion (show false = true from hb) | skip)) | refine And.intro (a:=_ ≤ 140737488355328) ?_ ?_ | refine ⟨_,⟨rfl,rfl⟩,?_⟩ | refine And.intro (a:=chkPast _ _ _ _ _ _ _ _) ?_ ?_ | refine Opt.b ?_ | fail
  · -- turned
    omega
  · refine ⟨s,rfl,rfl,by omega,?_⟩
    skip
    refine ⟨s.reverse,rfl,rfl,?_⟩
    skip
    have h1 : ¬ c.kind = 1:=of_decide_eq_false (by assumption)
    have h2 : ¬ c.kind = 2:=of_decide_eq_false (by assumption)
    have h3 : ¬ c.kind = 3:=of_decide_eq_false (by assumption)
    have h4 : ¬ c.kind = 4:=of_decide_eq_false (by assumption)
    rw [if_neg h1,if_neg h2,if_neg h3,if_neg h4] at hone
    exact hone _ rfl
  · -- a field
    have h4 : c.kind = 4:=of_decide_eq_true (by assumption)
    have:=hcn h4
    refine ⟨s,[32],rfl,⟨by omega,by decide⟩,?_⟩
    rw [if_neg (by omega),if_neg (by omega),if_neg (by omega),if_pos h4] at hone
    repeat' first | (refine fun (b : Bool) hb=>?_; cases b <;> (first | exact absurd hb (by decide) | exact Bool.noConfusion (show true = false from hb) | exact Bool.noConfusion (show false = true from hb) | skip)) | (refine fun (hl : _ ≤ MAXL)=>?_) | refine And.intro (a:=I64 _) ?_ ?_ | fail
    · have hle : ¬ ((Lib.split s [32]).length : Int) < c.n:=of_decide_eq_false (by assumption)
      (first | omega | (unfold I64; omega) | (simp only [List.length_append,List.length_map,List.length_cons,List.length_nil,Nat.mul_one,Int.ofNat_eq_natCast] at *; omega) | (dsimp only at *; omega) | (unfold I64; dsimp only at *; omega) | (unfold I64; grind) | grind)
    · have hle : ¬ ((Lib.split s [32]).length : Int) < c.n:=of_decide_eq_false (by assumption)
      have hlt : (c.n - 1).toNat < (Lib.split s [32]).length:=by omega
      refine ⟨(c.n - 1).toNat,by omega,hlt,rfl,?_⟩
      skip
      rw [if_neg hle] at hone
      have e : (Lib.split s [32]).getD (c.n - 1).toNat [] = (Lib.split s [32])[(c.n - 1).toNat]:=by rw [List.getD_eq_getElem?_getD,List.getElem?_eq_getElem hlt]; rfl
      rw [e] at hone
      exact hone _ rfl
    · have hle : ((Lib.split s [32]).length : Int) < c.n:=of_decide_eq_true (by assumption)
      rw [if_pos hle] at hone
      exact hone _ rfl
  · -- a byte for another
    have h3 : c.kind = 3:=of_decide_eq_true (by assumption)
    obtain ⟨x,y,hw⟩:=hcw h3
    rw [if_neg (by omega),if_neg (by omega),if_pos h3] at hone
    obtain ⟨ck,cw,cn⟩:=c
    dsimp only at hw
    subst hw
    refine ⟨_,⟨0,1,rfl,rfl,by decide,by show 1 ≤ 2; decide,rfl,rfl⟩,?_⟩
    repeat' first | exact True.intro | refine ⟨_,⟨rfl,rfl⟩,?_⟩ | refine And.intro (a:=chkPast _ _ _ _ _ _ _ _) ?_ ?_ | fail
    conv=>whnf
    refine ⟨_,⟨1,2,rfl,rfl,by decide,by show 2 ≤ 2; decide,rfl,rfl⟩,?_⟩
    skip
    have hr:=replace_one x y s
    have hl : (Lib.replaceAll s [x] [y]).length = s.length:=by rw [hr]; simp
    have hcs : Lib.count s [x] ≤ s.length:=by rw [Lib.count_one]; exact List.count_le_length
    apply Exists.intro
    apply And.intro
    · refine ⟨s,[x],[y],rfl,⟨by omega,by show 1 ≤ 1; decide,by show s.length + Lib.count s [x] * 1 ≤ _; omega,by rw [hl]; unfold MAXL; omega⟩,?_⟩
      exact ⟨rfl,rfl⟩
    repeat' first | refine ⟨_,⟨rfl,rfl⟩,?_⟩ | fail
    exact hone _ rfl
  · have h : c.kind = 2:=of_decide_eq_true (by assumption)
    refine ⟨s,c.word,rfl,by omega,?_⟩
    skip
    rw [if_neg (by omega),if_pos h] at hone
    exact hone _ rfl
  · have h : c.kind = 1:=of_decide_eq_true (by assumption)
    refine ⟨s,c.word,rfl,by omega,?_⟩
    skip
    rw [if_pos h] at hone
    exact hone _ rfl
end Gv
namespace Gv
variable [Glob] [Laid] [Nums]
theorem bel_more (w : World) (k : Nat) (os : Array Obj) : Bel [] w (Go.Sort.grow (w.drewN k) os) :=
  ⟨rfl,rfl,rfl,by rw [Go.Sort.size_grow]; exact Nat.le_add_right _ _,fun i hi _=>Go.Sort.heap_grow_old (w.drewN k) os hi⟩
theorem itoa_ca : callable Tryz.prog 150 = true:=by kernel_rfl
def itoa_S : Spec:=fun args K=>∃ (n : Int),args = [.int .i64 n] ∧ I64 n ∧ K (.str (Lib.itoa n))
set_option maxHeartbeats 4000000 in
theorem itoa_ok : Pure Tryz.prog 150 itoa_S:=by
  intro w m args us K hm hg hv hT
  obtain ⟨n,rfl,h1,hK⟩:=hT
  obtain ⟨a,rfl,ha⟩:=args1 hv.1 hv.2
  cases ha
  refine (Tryz.strconv_Itoa n h1.1 h1.2 w (Nums.pow10 w (fun b o e=>hm b o (hg b o e)))).mono fun e w' ⟨he,k,os,hw⟩=>?_
  subst hw
  have:=itoa_len n h1
  exact ⟨_,_,he,bel_more w k os,hK,.str (by unfold MAXL; omega)⟩
end Gv
namespace Gv
variable [Glob] [Laid]
theorem sortS_ca : callable Tryz.prog 152 = true:=by kernel_rfl
def sortS_P : PSpec:=fun args rows K=>(∃ (l : List Bs),args = [.own 0] ∧ rows = [.row 1 (l.map strV)] ∧ l.length < 4611686018427387904 ∧ K (.tup []) [.row 1 ((sortB l).map strV)]) ∨ (args = [.nil] ∧ rows = [] ∧ K (.tup []) [])
set_option maxHeartbeats 4000000 in
theorem sortS_prim : PrimOK Tryz.prog 152 sortS_P:=by
  intro w0 m0 args rows k R m q w us C hv hT
  rcases hT with ⟨l,rfl,rfl,hl,hK⟩ | ⟨rfl,rfl,hK⟩
  rotate_left
  · obtain ⟨u,rfl,hu⟩:=vrl_one hv
    refine ⟨sortS_ca,?_⟩
    cases hu
    refine (Tryz.slices_Sort_string_none none 0 w).mono fun e w' ⟨he,hw⟩=>?_
    subst hw
    exact ⟨_,he,_,_,_,_,_,hK,C,Mem.Le.refl m,Loc.Le.refl q,.tup (us:=[]) rfl fun i v u h=>by simp at h⟩
  obtain ⟨u,rfl,hu⟩:=vrl_one hv
  refine ⟨sortS_ca,?_⟩
  rcases own_strs C hu with ⟨rfl,rfl⟩ | ⟨b,cap,arr,T,fz,rfl,h1,h2,h3,h4,h5,h6,h7,h8⟩
  · refine (Tryz.slices_Sort_string_none none 0 w).mono fun e w' ⟨he,hw⟩=>?_
    subst hw
    have e : sortB ([] : List Bs) = []:=by simp [sortB]
    rw [e] at hK
    exact ⟨_,he,_,_,_,_,_,hK,C,Mem.Le.refl m,Loc.Le.refl q,.tup (us:=[]) rfl fun i v u h=>by simp at h⟩
  · have hblk:=C.sit.lt h4
    refine (Tryz.slices_Sort_string b 0 cap l w h7 hblk hl).mono fun e w' ⟨he,n,os,hw⟩=>?_
    obtain ⟨g1,g2⟩:=sorted_world (C.sit.own _ _ h4).2.1 hw
    have C2:=C.strs_put (l':=sortB l) h3 h4 h5 h6 h2 h1 (sortB_len l) (fun x hx=>h8 x ((sortB_perm l).mem_iff.1 hx)) g1 g2
    exact ⟨_,he,_,_,_,_,_,hK,C2,Mem.Le.refl m,Loc.Le.refl q,.tup (us:=[]) rfl fun i v u h=>by simp at h⟩
end Gv
namespace Gv
variable [Glob] [Laid]
theorem compactS_ca : callable Tryz.prog 153 = true:=by kernel_rfl
def compactS_P : PSpec:=fun args rows K=>(∃ (l : List Bs),args = [.own 0] ∧ rows = [.row 1 (l.map strV)] ∧ K (.own 1) [.dead,.row 1 ((onceB l).map strV)]) ∨ (args = [.nil] ∧ rows = [] ∧ K .nil [])
set_option maxHeartbeats 4000000 in
theorem compactS_prim : PrimOK Tryz.prog 153 compactS_P:=by
  intro w0 m0 args rows k R m q w us C hv hT
  rcases hT with ⟨l,rfl,rfl,hK⟩ | ⟨rfl,rfl,hK⟩
  rotate_left
  · obtain ⟨u,rfl,hu⟩:=vrl_one hv
    refine ⟨compactS_ca,?_⟩
    cases hu
    refine (Tryz.slices_Compact_string_empty none 0 w).mono fun e w' ⟨he,hw⟩=>?_
    subst hw
    exact ⟨_,he,_,_,_,_,_,hK,C,Mem.Le.refl m,Loc.Le.refl q,.nil⟩
  obtain ⟨u,rfl,hu⟩:=vrl_one hv
  refine ⟨compactS_ca,?_⟩
  rcases own_strs C hu with ⟨rfl,rfl⟩ | ⟨b,cap,arr,T,fz,rfl,h1,h2,h3,h4,h5,h6,h7,h8⟩
  · refine (Tryz.slices_Compact_string_empty none 0 w).mono fun e w' ⟨he,hw⟩=>?_
    subst hw
    have C1:=C.kill (r:=0) rfl
    have C2:=C1.row0 1
    refine ⟨_,he,_,_,_,_,_,hK,C2,Mem.Le.refl m,C1.le_add _,?_⟩
    exact VR.own (add_self q 1 (none,0,0,1))
  · have hw0:=(C.sit.own _ _ h4).2.1
    refine (Tryz.slices_Compact_string b 0 cap l w h7 (by unfold MAXL at h2; omega) h1).mono fun e w' ⟨he,n,hw⟩=>?_
    obtain ⟨g1,g2⟩:=sorted_world (w':=w') (n:=n) (d:=(Lib.compact l ++ List.replicate (l.length - (Lib.compact l).length) ([] : Bs)).toArray) (os:=#[]) hw0 (by rw [hw,Go.Sort.grow_empty])
    have S':=C.sit.write h4 g1 g2
    have hlen : (Lib.compact l ++ List.replicate (l.length - (Lib.compact l).length) ([] : Bs)).length ≤ cap:=by
      have:=onceB_len l
      unfold onceB at this
      simp
      omega
    have he' : ElsR m 1 ((onceB l).map strV) (Go.Sort.putCells Go.Proofs.encStr 0 (Lib.compact l ++ List.replicate (l.length - (Lib.compact l).length) ([] : Bs)).toArray arr):=fun i x hi=>by
      have hx:=els_put (m:=m) (l:=l) (l':=Lib.compact l ++ List.replicate (l.length - (Lib.compact l).length) ([] : Bs)) h5 hlen (fun x hx=>by
        rcases List.mem_append.1 hx with hx | hx
        · exact h8 x (onceB_sub l x hx)
        · rw [(List.mem_replicate.1 hx).2]; exact Nat.zero_le _)
      refine hx i x ?_
      rw [List.map_append,List.getElem?_append_left (show i < ((Lib.compact l).map strV).length from (List.getElem?_eq_some_iff.1 hi).1)]
      exact hi
    have e0 : ([Row.row 1 (l.map strV)].set 0 Row.dead ++ [.row 1 ((onceB l).map strV)]) = [.dead,.row 1 ((onceB l).map strV)]:=rfl
    have C2:=C.move (r:=0) (y:=.row 1 ((onceB l).map strV)) (n':=(onceB l).length) (c':=cap) (k':=1) rfl rfl h3 S' ⟨some b,cap,by simp [add_self],by simp; have:=onceB_len l; omega,h2,(fun h=>by cases h),fun b' e=>by
      cases e
      exact ⟨_,T,fz,by simp [Mem.put],by rw [putCells_size]; exact h5,he',noFk1 (by rw [putCells_size]; exact h6)⟩⟩
    refine ⟨_,he,_,_,_,_,_,hK,C2,Mem.Le.refl m,C.le_add _,?_⟩
    exact VR.own (add_self q 1 (some b,(onceB l).length,cap,1))
end Gv
namespace Gv
variable [Glob] [Laid] [Nums]
theorem linesC_ca : callable Tryz.prog 91 = true:=by kernel_rfl
def linesC_S : Spec:=fun args K=>∃ (c : Cmd) (l : List Bs),args = [cmdV c,.sl strV l] ∧ (checkCmd c = 0 ∧ l.length ≤ 900000 ∧ ∀ s ∈ l,s.length ≤ 900000) ∧ K (.sl strV (linesC c l))
noncomputable def linesC_lib : List (Nat × Spec):=[(154,one_S),(150,itoa_S)]
noncomputable def linesC_fns : List (Nat × FnI):=[(131,{fn:=Tryz.f131,hooks:=[],draws:=[]})]
noncomputable def linesC_prims : List (Nat × PSpec):=[(152,sortS_P),(153,compactS_P)]
theorem linesC_E : EnvOK ⟨Tryz.prog,tys,linesC_lib,linesC_fns,linesC_prims,[]⟩:=env_ok mixed0 tys0 (.cons one_ca one_ok (.cons itoa_ca itoa_ok .nil)) (.cons (by kernel_rfl) ⟨Tryz.func131,by kernel_rfl,by kernel_rfl⟩ .nil) (.cons sortS_prim (.cons compactS_prim .nil)) rfl
set_option maxHeartbeats 4000000 in
theorem linesC_ok : Pure Tryz.prog 91 linesC_S:=by
  refine pure_by linesC_E 6 (fi:={fn:=Tryz.f91,hooks:=[],draws:=[]}) ⟨Tryz.func91,by kernel_rfl,by kernel_rfl⟩ ?_
  rintro _ K ⟨c,l,rfl,⟨hc,hl,hs⟩,hK⟩
  replace hK : ∀ r,r = .sl strV (linesC c l) → K r:=fun r h=>h ▸ hK
  have hcn : c.kind = 9 ∨ c.kind = 10 → 1 ≤ c.n ∧ c.n ≤ 1000:=fun h=>by
    unfold checkCmd useN at hc
    grind
  have hone : ∀ r : List Bs,linesC c l = r → K (.sl strV r):=fun r h=>hK _ (by rw [h])
  unfold linesC at hone
  repeat' first | (refine fun (b : Bool) hb=>?_; cases b <;> (first | exact absurd hb (by decide) | exact Bool.noConfusion (show true = false from hb) | exact Bool.noConfusion (show false = true from hb) | skip)) | (refine fun (hl : _ ≤ MAXL)=>?_) | refine And.intro (a:=I64 _) ?_ ?_ | refine And.intro (a:=_ ≤ 140737488355328) ?_ ?_ | refine ⟨(fun _=>rfl),?_⟩ | fail
  · -- one line at a time
    have h6 : ¬ c.kind = 6:=of_decide_eq_false (by assumption)
    have h7 : ¬ c.kind = 7:=of_decide_eq_false (by assumption)
    have h8 : ¬ c.kind = 8:=of_decide_eq_false (by assumption)
    have h9 : ¬ c.kind = 9:=of_decide_eq_false (by assumption)
    have h10 : ¬ c.kind = 10:=of_decide_eq_false (by assumption)
    rw [if_neg h6,if_neg h7,if_neg h8,if_neg h9,if_neg h10] at hone
    conv=>whnf
    refine loop_live [2,51,52] (σ:=Nat × List Bs) (fun s=>[(53,.int .i64 s.1),(5,.own 1)]) (fun s=>[.box (cmdV c).cells,.row 1 (s.2.map strV)]) (fun s=>s.2 = (l.take s.1).filterMap (outC c) ∧ s.1 ≤ l.length) (fun s=>l.length - s.1) (0,[]) ?_
    conv=>whnf
    refine ⟨(by (refine wk_auto ?_; refine Sel4.mk rfl rfl ?_ ?_ <;> (repeat' (first | exact True.intro | exact rfl | exact Or.inl rfl | exact Or.inr rfl | refine And.intro ?_ ?_ | fail)))),⟨by simp,Nat.zero_le _⟩,fun s hs=>?_⟩
    obtain ⟨i,out⟩:=s
    obtain ⟨ho,hi⟩:=hs
    dsimp only at ho hi
    have hol : out.length ≤ 900000:=by
      rw [ho]
      have:=List.length_filterMap_le (outC c) (l.take i)
      simp only [List.length_take] at this
      omega
    repeat' first | refine ⟨_,_,_,LeL.refl _,?_⟩ | (refine fun (b : Bool) hb=>?_; cases b <;> (first | exact absurd hb (by decide) | exact Bool.noConfusion (show true = false from hb) | exact Bool.noConfusion (show false = true from hb) | skip)) | refine ⟨_,rfl,?_,rfl,?_⟩ | fail
    · have h : ¬ (i : Int) < (l.length : Int):=of_decide_eq_false (by assumption)
      have e : i = l.length:=by omega
      rw [e,List.take_length] at ho
      conv=>whnf
      exact hone _ ho.symm
    all_goals have hlt : i < l.length:=by grind
    · exact hlt
    refine ⟨c,l[i],rfl,⟨hc,hs _ (List.getElem_mem hlt)⟩,?_⟩
    have hnx : (l.take (i + 1)).filterMap (outC c) = out ++ (match oneC c l[i] with | (t,true)=>[t] | (_,false)=>[]):=by
      rw [List.take_succ_eq_append_getElem hlt,List.filterMap_append,← ho]
      congr 1
      simp only [List.filterMap_cons,List.filterMap_nil]
      unfold outC
      generalize oneC c l[i] = p
      obtain ⟨t,b⟩:=p
      cases b <;> rfl
    obtain ⟨p,hp⟩ : ∃ p,oneC c l[i] = p:=⟨_,rfl⟩
    rw [hp] at hnx ⊢
    obtain ⟨t,b⟩:=p
    cases b
    · repeat' first | (refine fun (b : Bool) hb=>?_; cases b <;> (first | exact absurd hb (by decide) | exact Bool.noConfusion (show true = false from hb) | exact Bool.noConfusion (show false = true from hb) | skip)) | refine And.intro (a:=I64 _) ?_ ?_ | fail
      · (first | omega | (unfold I64; omega) | (simp only [List.length_append,List.length_map,List.length_cons,List.length_nil,Nat.mul_one,Int.ofNat_eq_natCast] at *; omega) | (dsimp only at *; omega) | (unfold I64; dsimp only at *; omega) | (unfold I64; grind) | grind)
      refine ⟨(i + 1,out),(by (refine wk_auto ?_; refine Sel4.mk rfl rfl ?_ ?_ <;> (repeat' (first | exact True.intro | exact rfl | exact Or.inl rfl | exact Or.inr rfl | refine And.intro ?_ ?_ | fail)))),⟨?_,hlt⟩,?_⟩
      · show out = _
        rw [hnx]
        simp
      · show l.length - (i + 1) < l.length - i
        omega
    · repeat' first | (refine fun (b : Bool) hb=>?_; cases b <;> (first | exact absurd hb (by decide) | exact Bool.noConfusion (show true = false from hb) | exact Bool.noConfusion (show false = true from hb) | skip)) | refine And.intro (a:=I64 _) ?_ ?_ | refine And.intro (a:=_ ≤ 140737488355328) ?_ ?_ | refine ⟨rfl,?_⟩ | fail
      · show ((out.map strV).length + 1) * 16 ≤ 140737488355328
        rw [List.length_map]
        omega
      · (first | omega | (unfold I64; omega) | (simp only [List.length_append,List.length_map,List.length_cons,List.length_nil,Nat.mul_one,Int.ofNat_eq_natCast] at *; omega) | (dsimp only at *; omega) | (unfold I64; dsimp only at *; omega) | (unfold I64; grind) | grind)
      refine ⟨(i + 1,out ++ [t]),?_,⟨?_,hlt⟩,?_⟩
      rotate_left
      · show out ++ [t] = _
        rw [hnx]
      · show l.length - (i + 1) < l.length - i
        omega
      (refine wk_auto ?_; refine Sel4.mk rfl rfl ?_ ?_ <;> (repeat' (first | exact True.intro | exact rfl | exact Or.inl rfl | exact Or.inr rfl | refine And.intro ?_ ?_ | fail)))
      show Row.row 1 _ = Row.row 1 _
      simp
      rfl
  · obtain ⟨h1,h2⟩:=hcn (.inr (of_decide_eq_true (by assumption)))
    (first | omega | (unfold I64; omega) | (simp only [List.length_append,List.length_map,List.length_cons,List.length_nil,Nat.mul_one,Int.ofNat_eq_natCast] at *; omega) | (dsimp only at *; omega) | (unfold I64; dsimp only at *; omega) | (unfold I64; grind) | grind)
  · obtain ⟨h1,h2⟩:=hcn (.inr (of_decide_eq_true (by assumption)))
    have h6 : ¬ c.kind = 6:=of_decide_eq_false (by assumption)
    have h7 : ¬ c.kind = 7:=of_decide_eq_false (by assumption)
    have h8 : ¬ c.kind = 8:=of_decide_eq_false (by assumption)
    have h9 : ¬ c.kind = 9:=of_decide_eq_false (by assumption)
    have h10 : c.kind = 10:=of_decide_eq_true (by assumption)
    rw [if_neg h6,if_neg h7,if_neg h8,if_neg h9,if_pos h10] at hone
    conv=>whnf
    refine ⟨l.length - c.n.toNat,by omega,by omega,?_⟩
    repeat' first | refine ⟨_,_,_,LeL.refl _,?_⟩ | (refine fun (b : Bool) hb=>?_; cases b <;> (first | exact absurd hb (by decide) | exact Bool.noConfusion (show true = false from hb) | exact Bool.noConfusion (show false = true from hb) | skip)) | refine And.intro (a:=_ ≤ 140737488355328) ?_ ?_ | refine ⟨(fun _=>rfl),?_⟩ | fail
    · show (0 + ((l.drop (l.length - c.n.toNat)).map strV).length) * 16 ≤ 140737488355328
      rw [List.length_map,List.length_drop]
      omega
    · exact hone _ rfl
    · have h : true = true → l.drop (l.length - c.n.toNat) = []:=by assumption
      refine ⟨_,strV,hone _ (h rfl)⟩
  · obtain ⟨h1,h2⟩:=hcn (.inl (of_decide_eq_true (by assumption)))
    have h6 : ¬ c.kind = 6:=of_decide_eq_false (by assumption)
    have h7 : ¬ c.kind = 7:=of_decide_eq_false (by assumption)
    have h8 : ¬ c.kind = 8:=of_decide_eq_false (by assumption)
    have h9 : c.kind = 9:=of_decide_eq_true (by assumption)
    rw [if_neg h6,if_neg h7,if_neg h8,if_pos h9] at hone
    conv=>whnf
    have ht : l.take (min c.n.toNat l.length) = l.take c.n.toNat:=by
      rw [← List.take_take,List.take_length]
    refine ⟨min c.n.toNat l.length,by omega,by omega,?_⟩
    repeat' first | refine ⟨_,_,_,LeL.refl _,?_⟩ | (refine fun (b : Bool) hb=>?_; cases b <;> (first | exact absurd hb (by decide) | exact Bool.noConfusion (show true = false from hb) | exact Bool.noConfusion (show false = true from hb) | skip)) | refine And.intro (a:=_ ≤ 140737488355328) ?_ ?_ | refine ⟨(fun _=>rfl),?_⟩ | fail
    · show (0 + ((l.take (min c.n.toNat l.length)).map strV).length) * 16 ≤ 140737488355328
      rw [List.length_map,List.length_take]
      omega
    · exact hone _ ht.symm
    · have h : true = true → l.take (min c.n.toNat l.length) = []:=by assumption
      refine ⟨_,strV,hone _ (ht.symm.trans (h rfl))⟩
  · have h6 : ¬ c.kind = 6:=of_decide_eq_false (by assumption)
    have h7 : ¬ c.kind = 7:=of_decide_eq_false (by assumption)
    have h8 : c.kind = 8:=of_decide_eq_true (by assumption)
    rw [if_neg h6,if_neg h7,if_pos h8] at hone
    refine ⟨l.length,rfl,⟨by omega,by omega⟩,?_⟩
    skip
    refine ⟨Bs,strV,[Lib.itoa l.length],LeL.refl _,?_⟩
    exact hone _ rfl
  · show (0 + (l.map strV).length) * 16 ≤ 140737488355328
    rw [List.length_map]
    omega
  · refine .inl ⟨l,rfl,rfl,?_⟩
    repeat' first | refine ⟨_,_,_,LeL.refl _,?_⟩ | fail
    have h6 : ¬ c.kind = 6:=of_decide_eq_false (by assumption)
    have h7 : c.kind = 7:=of_decide_eq_true (by assumption)
    rw [if_neg h6,if_pos h7] at hone
    exact hone _ rfl
  · have h : true = true → l = []:=by assumption
    refine .inr ⟨rfl,rfl,?_⟩
    skip
    have h6 : ¬ c.kind = 6:=of_decide_eq_false (by assumption)
    have h7 : c.kind = 7:=of_decide_eq_true (by assumption)
    rw [if_neg h6,if_pos h7,h rfl] at hone
    exact ⟨_,strV,hone [] (by simp [onceB,Lib.compact,Lib.compactUpTo])⟩
  · show (0 + (l.map strV).length) * 16 ≤ 140737488355328
    rw [List.length_map]
    omega
  · refine .inl ⟨l,rfl,rfl,by omega,?_⟩
    repeat' first | refine ⟨_,_,_,LeL.refl _,?_⟩ | fail
    have h6 : c.kind = 6:=of_decide_eq_true (by assumption)
    rw [if_pos h6] at hone
    exact hone _ rfl
  · have h : true = true → l = []:=by assumption
    refine .inr ⟨rfl,rfl,?_⟩
    skip
    have h6 : c.kind = 6:=of_decide_eq_true (by assumption)
    rw [if_pos h6,h rfl] at hone
    exact ⟨_,strV,hone [] (by simp [sortB])⟩
end Gv
namespace Gv
variable [Glob] [Laid]
def bytesGo : Nat → List Bs → Int
  | _,[]=>0
  | n,s :: r=>if s.contains 10 = true then 4 else if (s.length : Int) > 4000 - n - 1 then 2 else bytesGo (n + s.length + 1) r
def lineBytes (l : List Bs) : Bs × Int:=if bytesGo 0 l = 0 then (put l,0) else ([],bytesGo 0 l)
theorem bytesGo_at {l : List Bs} {i : Nat} (h : bytesGo (put (l.take i)).length (l.drop i) = bytesGo 0 l) (hi : i < l.length) :
    bytesGo 0 l = if l[i].contains 10 = true then 4 else if (l[i].length : Int) > 4000 - (put (l.take i)).length - 1 then 2 else bytesGo (put (l.take (i + 1))).length (l.drop (i + 1)):=by
  rw [← h,List.drop_eq_getElem_cons hi,bytesGo,put_take_succ hi]
  simp only [List.length_append,List.length_cons,List.length_nil,Nat.add_assoc]
theorem bytes_ca : callable Tryz.prog 92 = true:=by kernel_rfl
def bytes_S : Spec:=fun args K=>∃ l : List Bs,args = [.sl strV l] ∧ (∀ s ∈ l,s.length ≤ reachBytes) ∧ K (.tup [.sl byteV (lineBytes l).1,.int .i64 (lineBytes l).2])
noncomputable def bytes_lib : List (Nat × Spec):=[(155,containsB_S)]
noncomputable def bytes_fns : List (Nat × FnI):=[]
noncomputable def bytes_prims : List (Nat × PSpec):=[]
theorem bytes_E : EnvOK ⟨Tryz.prog,tys,bytes_lib,bytes_fns,bytes_prims,[]⟩:=env_ok mixed0 tys0 (.cons containsB_ca containsB_ok .nil) .nil .nil rfl
set_option maxHeartbeats 4000000 in
theorem bytes_ok : Pure Tryz.prog 92 bytes_S:=by
  refine pure_by bytes_E 6 (fi:={fn:=Tryz.f92,hooks:=[],draws:=[]}) ⟨Tryz.func92,by kernel_rfl,by kernel_rfl⟩ ?_
  rintro _ K ⟨l,rfl,hz,hK⟩
  replace hK : ∀ r,r = .tup [.sl byteV (lineBytes l).1,.int .i64 (lineBytes l).2] → K r:=fun r h=>h ▸ hK
  refine fun (hl : _ ≤ MAXL)=>?_
  conv=>whnf
  refine loop_live [7,8] (σ:=Nat) (fun i=>[(4,.own 0),(9,.int .i64 i)]) (fun i=>[.row 1 ((put (l.take i)).map byteV)]) (fun i=>i ≤ l.length ∧ bytesGo (put (l.take i)).length (l.drop i) = bytesGo 0 l ∧ (put (l.take i)).length ≤ 4000) (fun i=>l.length - i) 0 ?_
  conv=>whnf
  refine ⟨(by (refine wk_sel [none] rfl rfl ?_ ?_ <;> (repeat' (first | exact True.intro | exact rfl | exact Or.inl rfl | exact Or.inr rfl | refine And.intro ?_ ?_ | fail)))),⟨Nat.zero_le _,rfl,by simp [put]⟩,fun i hi=>?_⟩
  obtain ⟨hi,hg,hs⟩:=hi
  repeat' first | refine ⟨_,_,_,LeL.refl _,?_⟩ | (refine fun (b : Bool) hb=>?_; cases b <;> (first | exact absurd hb (by decide) | exact Bool.noConfusion (show true = false from hb) | exact Bool.noConfusion (show false = true from hb) | skip)) | refine And.intro (a:=_ ≤ 140737488355328) ?_ ?_ | refine ⟨_,rfl,?_,rfl,?_⟩ | refine Opt.a ?_ | fail
  · refine hK _ ?_
    have e : l.take i = l:=List.take_of_length_le (by grind)
    have e2 : l.drop i = []:=List.drop_eq_nil_of_le (by grind)
    rw [e2,bytesGo] at hg
    unfold lineBytes
    rw [← hg,e]
    rfl
  · grind
  · exact Nat.le_trans (hz _ (List.getElem_mem (by grind))) (by decide)
  have hi2 : i < l.length:=by grind
  have ha:=bytesGo_at hg hi2
  have ht:=@put_take_succ l i hi2
  refine ⟨l[i],10,rfl,?_⟩
  repeat' first | (refine fun (b : Bool) hb=>?_; cases b <;> (first | exact absurd hb (by decide) | exact Bool.noConfusion (show true = false from hb) | exact Bool.noConfusion (show false = true from hb) | skip)) | (refine fun (hl : _ ≤ MAXL)=>?_) | refine And.intro (a:=I64 _) ?_ ?_ | refine And.intro (a:=_ ≤ 140737488355328) ?_ ?_ | refine ⟨rfl,?_⟩ | refine ⟨UInt8,byteV,?_⟩ | fail
  · (first | omega | (unfold I64; omega) | (simp only [List.length_append,List.length_map,List.length_cons,List.length_nil,Nat.mul_one,Int.ofNat_eq_natCast] at *; omega) | (dsimp only at *; omega) | (unfold I64; dsimp only at *; omega) | (unfold I64; grind) | grind)
  · (first | omega | (unfold I64; omega) | (simp only [List.length_append,List.length_map,List.length_cons,List.length_nil,Nat.mul_one,Int.ofNat_eq_natCast] at *; omega) | (dsimp only at *; omega) | (unfold I64; dsimp only at *; omega) | (unfold I64; grind) | grind)
  · simp only [List.length_append,List.length_map,List.length_cons,List.length_nil,Nat.mul_one] at *
    grind
  · simp only [List.length_append,List.length_map,List.length_cons,List.length_nil,Nat.mul_one] at *
    grind
  · (first | omega | (unfold I64; omega) | (simp only [List.length_append,List.length_map,List.length_cons,List.length_nil,Nat.mul_one,Int.ofNat_eq_natCast] at *; omega) | (dsimp only at *; omega) | (unfold I64; dsimp only at *; omega) | (unfold I64; grind) | grind)
  · simp only [List.length_map] at *
    have h1 : ¬ l[i].contains 10 = true:=by grind
    have h2 : ¬ (l[i].length : Int) > 4000 - (put (l.take i)).length - 1:=by grind
    rw [if_neg h1,if_neg h2] at ha
    refine ⟨i + 1,?_,⟨by omega,ha.symm,?_⟩,by omega⟩
    · refine wk_sel [some 3] rfl rfl ⟨?_,trivial⟩ ?_
      · rw [ht,List.map_append,List.map_append,← List.append_assoc]
        exact rfl
      · (repeat' (first | exact True.intro | exact rfl | exact Or.inl rfl | exact Or.inr rfl | refine And.intro ?_ ?_ | fail))
    · rw [ht]
      simp only [List.length_append,List.length_cons,List.length_nil]
      omega
  · simp only [List.length_map] at *
    refine hK _ ?_
    have h1 : ¬ l[i].contains 10 = true:=by grind
    have h2 : (l[i].length : Int) > 4000 - (put (l.take i)).length - 1:=by grind
    rw [if_neg h1,if_pos h2] at ha
    unfold lineBytes
    rw [ha]
    rfl
  · refine hK _ ?_
    have h1 : l[i].contains 10 = true:=by assumption
    rw [if_pos h1] at ha
    unfold lineBytes
    rw [ha]
    rfl
end Gv
namespace Gv
variable [Glob] [Laid] [Nums]
def shellLine (l : List FileS) (x : LineS) : Bs × Int:=if checkLine x ≠ 0 then ([],checkLine x) else if (gatherS l x.frm).2 ≠ 0 then ([],(gatherS l x.frm).2) else lineBytes (doLines x.cmds (linesOf (gatherS l x.frm).1))
theorem checkLine_ok {x : LineS} (h : checkLine x = 0) : x.cmds.length ≤ 6 ∧ ∀ c ∈ x.cmds,checkCmd c = 0:=by
  unfold checkLine at h
  split at h
  · cases h
  · split at h
    · cases h
    · rename_i h1 h2
      exact ⟨by omega,firstBad_at h⟩
theorem lineF_ca : callable Tryz.prog 38 = true:=by kernel_rfl
def lineF_S : Spec:=fun args K=>∃ (l : List FileS) (f : List Bs) (c : List Cmd) (t : Bs),args = [.sl fileV l,.agg [.sl strV f,.sl cmdV c,.str t]] ∧ K (.tup [.sl byteV (shellLine l ⟨f,c,t⟩).1,.int .i64 (shellLine l ⟨f,c,t⟩).2])
noncomputable def lineF_lib : List (Nat × Spec):=[(68,cline_S),(39,gather_S),(90,linesL_S),(91,linesC_S),(92,bytes_S)]
noncomputable def lineF_fns : List (Nat × FnI):=[]
noncomputable def lineF_prims : List (Nat × PSpec):=[]
theorem lineF_E : EnvOK ⟨Tryz.prog,tys,lineF_lib,lineF_fns,lineF_prims,[]⟩:=env_ok mixed0 tys0 (.cons cline_ca cline_ok (.cons gather_ca gather_ok (.cons linesL_ca linesL_ok (.cons linesC_ca linesC_ok (.cons bytes_ca bytes_ok .nil))))) .nil .nil rfl
set_option maxHeartbeats 8000000 in
theorem lineF_ok : Pure Tryz.prog 38 lineF_S:=by
  refine pure_by lineF_E 6 (fi:={fn:=Tryz.f38,hooks:=[],draws:=[]}) ⟨Tryz.func38,by kernel_rfl,by kernel_rfl⟩ ?_
  rintro _ K ⟨l,f,c,t,rfl,hK⟩
  replace hK : ∀ r,r = .tup [.sl byteV (shellLine l ⟨f,c,t⟩).1,.int .i64 (shellLine l ⟨f,c,t⟩).2] → K r:=fun r h=>h ▸ hK
  have hone : ∀ r : Bs × Int,shellLine l ⟨f,c,t⟩ = r → K (.tup [.sl byteV r.1,.int .i64 r.2]):=fun r h=>hK _ (by rw [h])
  unfold shellLine at hone
  dsimp only at hone
  refine ⟨f,c,t,rfl,?_⟩
  obtain ⟨e,he⟩ : ∃ e,checkLine ⟨f,c,t⟩ = e:=⟨_,rfl⟩
  rw [he] at hone ⊢
  repeat' first | (refine fun (b : Bool) hb=>?_; cases b <;> (first | exact absurd hb (by decide) | exact Bool.noConfusion (show true = false from hb) | exact Bool.noConfusion (show false = true from hb) | skip)) | fail
  rotate_left
  · have h0 : ¬ e = 0 := by
      have h : (!decide (e = 0)) = true:=by assumption
      simpa using h
    rw [if_pos h0] at hone
    skip
    exact ⟨_,byteV,hone _ rfl⟩
  have h0 : e = 0:=by
    have h : (!decide (e = 0)) = false:=by assumption
    simpa using h
  subst h0
  rw [if_neg (by simp)] at hone
  obtain ⟨hc6,hcc⟩:=checkLine_ok he
  dsimp only at hc6 hcc
  refine ⟨l,f,rfl,?_⟩
  have hgl:=gatherS_len l f
  obtain ⟨g,hg⟩ : ∃ g,gatherS l f = g:=⟨_,rfl⟩
  rw [hg] at hone hgl ⊢
  obtain ⟨b,e⟩:=g
  dsimp only at hone hgl
  repeat' first | (refine fun (b : Bool) hb=>?_; cases b <;> (first | exact absurd hb (by decide) | exact Bool.noConfusion (show true = false from hb) | exact Bool.noConfusion (show false = true from hb) | skip)) | fail
  rotate_left
  · have h0 : ¬ e = 0 := by
      have h : (!decide (e = 0)) = true:=by assumption
      simpa using h
    rw [if_pos h0] at hone
    skip
    exact ⟨_,byteV,hone _ rfl⟩
  have h0 : e = 0:=by
    have h : (!decide (e = 0)) = false:=by assumption
    simpa using h
  subst h0
  rw [if_neg (by simp)] at hone
  refine ⟨b,rfl,by omega,?_⟩
  have hpb:=put_lines b
  have hdp:=doLines_put hcc (s:=linesOf b) (by omega) (by omega)
  repeat' first | (refine fun (hl : _ ≤ MAXL)=>?_) | fail
  conv=>whnf
  refine loop_live [30,31] (σ:=Nat × List Bs) (fun s=>[(32,.int .i64 s.1),(9,.sl strV s.2)]) (fun s=>[.box [.sl strV f,.sl cmdV c,.str t]]) (fun s=>s.1 ≤ c.length ∧ s.2 = doLines (c.take s.1) (linesOf b)) (fun s=>c.length - s.1) (0,linesOf b) ?_
  conv=>whnf
  refine ⟨(by (refine wk_auto ?_; refine Sel4.mk rfl rfl ?_ ?_ <;> (repeat' (first | exact True.intro | exact rfl | exact Or.inl rfl | exact Or.inr rfl | refine And.intro ?_ ?_ | fail)))),⟨Nat.zero_le _,rfl⟩,fun s hs=>?_⟩
  obtain ⟨i,s⟩:=s
  obtain ⟨hi,hs⟩:=hs
  dsimp only at hi hs
  have hsp : (put s).length ≤ 5000:=by
    have:=hdp i hi
    rw [hs]; omega
  have hsl:=put_len (l:=s) (n:=5000) hsp
  repeat' first | (refine fun (b : Bool) hb=>?_; cases b <;> (first | exact absurd hb (by decide) | exact Bool.noConfusion (show true = false from hb) | exact Bool.noConfusion (show false = true from hb) | skip)) | refine ⟨_,rfl,?_,rfl,?_⟩ | fail
  · have hge : ¬ (i : Int) < (c.length : Int):=of_decide_eq_false (by assumption)
    have ei : c.take i = c:=List.take_of_length_le (by omega)
    rw [ei] at hs
    skip
    refine ⟨s,rfl,fun x hx=>by have:=put_el hx; unfold reachBytes; omega,?_⟩
    skip
    exact hone _ (by rw [hs])
  · have h:=of_decide_eq_true (by assumption : decide ((i : Int) < (c.length : Int)) = true)
    show i < c.length
    omega
  have hlt : i < c.length:=by
    have h:=of_decide_eq_true (by assumption : decide ((i : Int) < (c.length : Int)) = true)
    omega
  conv=>whnf
  refine ⟨c[i],s,rfl,⟨hcc _ (List.getElem_mem hlt),by omega,fun x hx=>by have:=put_el hx; omega⟩,?_⟩
  repeat' first | refine And.intro (a:=I64 _) ?_ ?_ | fail
  · unfold I64
    dsimp only
    omega
  refine ⟨(i + 1,linesC c[i] s),(by (refine wk_auto ?_; refine Sel4.mk rfl rfl ?_ ?_ <;> (repeat' (first | exact True.intro | exact rfl | exact Or.inl rfl | exact Or.inr rfl | refine And.intro ?_ ?_ | fail)))),⟨hlt,?_⟩,by show c.length - (i + 1) < c.length - i; omega⟩
  show linesC c[i] s = _
  rw [doLines_take hlt,hs]
end Gv
namespace Gv
variable [Glob] [Laid] [Nums]
theorem runS_ca : callable Tryz.prog 29 = true:=by kernel_rfl
def runS_S : Spec:=fun args K=>∃ (F : List FileS) (s : List LineS),args = [.sl fileV F,.sl lineV s] ∧ K (.tup [.sl fileV (runL shellLine F s).1,.int .i64 (runL shellLine F s).2])
noncomputable def runS_lib : List (Nat × Spec):=[(32,cfiles_S),(81,scheckS_S),(64,copyF_S),(38,lineF_S),(28,putF_S)]
noncomputable def runS_fns : List (Nat × FnI):=[]
noncomputable def runS_prims : List (Nat × PSpec):=[]
theorem runS_E : EnvOK ⟨Tryz.prog,tys,runS_lib,runS_fns,runS_prims,[]⟩:=env_ok mixed0 tys0 (.cons cfiles_ca cfiles_ok (.cons scheckS_ca scheckS_ok (.cons copyF_ca copyF_ok (.cons lineF_ca lineF_ok (.cons putF_ca putF_ok .nil))))) .nil .nil rfl
set_option maxHeartbeats 8000000 in
theorem runS_ok : Pure Tryz.prog 29 runS_S:=by
  refine pure_by runS_E 6 (fi:={fn:=Tryz.f29,hooks:=[],draws:=[]}) ⟨Tryz.func29,by kernel_rfl,by kernel_rfl⟩ ?_
  rintro _ K ⟨F,s,rfl,hK⟩
  replace hK : ∀ r,r = .tup [.sl fileV (runL shellLine F s).1,.int .i64 (runL shellLine F s).2] → K r:=fun r h=>h ▸ hK
  refine ⟨F,rfl,?_⟩
  repeat' first | (refine fun (b : Bool) hb=>?_; cases b <;> (first | exact absurd hb (by decide) | exact Bool.noConfusion (show true = false from hb) | exact Bool.noConfusion (show false = true from hb) | skip)) | fail
  rotate_left
  · have h0 : checkFiles F ≠ 0:=by simpa using ‹(!decide (checkFiles F = 0)) = true›
    refine ⟨FileS,fileV,?_⟩
    refine hK _ ?_
    unfold runL
    rw [if_pos h0]
  have h0 : checkFiles F = 0:=by simpa using ‹(!decide (checkFiles F = 0)) = false›
  obtain ⟨h12,hall⟩:=checkFiles_ok h0
  conv=>whnf
  refine ⟨s,rfl,?_⟩
  repeat' first | (refine fun (b : Bool) hb=>?_; cases b <;> (first | exact absurd hb (by decide) | exact Bool.noConfusion (show true = false from hb) | exact Bool.noConfusion (show false = true from hb) | skip)) | fail
  rotate_left
  · have h1 : checkS s ≠ 0:=by simpa using ‹(!decide (checkS s = 0)) = true›
    refine ⟨FileS,fileV,?_⟩
    refine hK _ ?_
    unfold runL
    rw [if_neg (by rw [h0]; decide),if_pos h1]
  have h1 : checkS s = 0:=by simpa using ‹(!decide (checkS s = 0)) = false›
  have hone : ∀ r : List FileS × Int,runGoL shellLine F s = r → K (.tup [.sl fileV r.1,.int .i64 r.2]):=fun r h=>hK _ (by unfold runL; rw [if_neg (by rw [h0]; decide),if_neg (by rw [h1]; decide),h])
  conv=>whnf
  skip
  refine ⟨F,rfl,⟨by omega,fun f hf=>by have:=(hall f hf).2; omega⟩,?_⟩
  conv=>whnf
  repeat' first | (refine fun (hl : _ ≤ MAXL)=>?_) | fail
  conv=>whnf
  refine loop_live [24,25] (σ:=Nat × List FileS) (fun t=>[(26,.int .i64 t.1),(0,.sl fileV t.2)]) (fun _=>[]) (fun t=>t.1 ≤ s.length ∧ runGoL shellLine t.2 (s.drop t.1) = runGoL shellLine F s) (fun t=>s.length - t.1) (0,F) ?_
  conv=>whnf
  refine ⟨(by (refine wk_auto ?_; refine Sel4.mk rfl rfl ?_ ?_ <;> (repeat' (first | exact True.intro | exact rfl | exact Or.inl rfl | exact Or.inr rfl | refine And.intro ?_ ?_ | fail)))),⟨Nat.zero_le _,rfl⟩,fun t ht=>?_⟩
  obtain ⟨i,G⟩:=t
  obtain ⟨hi,hg⟩:=ht
  dsimp only at hi hg
  repeat' first | (refine fun (b : Bool) hb=>?_; cases b <;> (first | exact absurd hb (by decide) | exact Bool.noConfusion (show true = false from hb) | exact Bool.noConfusion (show false = true from hb) | skip)) | refine ⟨_,rfl,?_,rfl,?_⟩ | fail
  · have hge : ¬ (i : Int) < (s.length : Int):=of_decide_eq_false (by assumption)
    have e : s.drop i = []:=List.drop_eq_nil_of_le (by omega)
    rw [e] at hg
    conv=>whnf
    skip
    exact hone _ hg.symm
  · have h:=of_decide_eq_true (by assumption : decide ((i : Int) < (s.length : Int)) = true)
    show i < s.length
    omega
  have hlt : i < s.length:=by
    have h:=of_decide_eq_true (by assumption : decide ((i : Int) < (s.length : Int)) = true)
    omega
  rw [List.drop_eq_getElem_cons hlt,runGoL] at hg
  conv=>whnf
  skip
  refine ⟨G,s[i].frm,s[i].cmds,s[i].to,rfl,?_⟩
  rw [show (⟨s[i].frm,s[i].cmds,s[i].to⟩ : LineS) = s[i] from rfl]
  repeat' first | (refine fun (b : Bool) hb=>?_; cases b <;> (first | exact absurd hb (by decide) | exact Bool.noConfusion (show true = false from hb) | exact Bool.noConfusion (show false = true from hb) | skip)) | fail
  rotate_left
  · have h2 : (shellLine G s[i]).2 ≠ 0:=by simpa using ‹(!decide ((shellLine G s[i]).2 = 0)) = true›
    rw [if_pos h2] at hg
    conv=>whnf
    skip
    refine ⟨FileS,fileV,?_⟩
    exact hone _ hg.symm
  have h2 : (shellLine G s[i]).2 = 0:=by simpa using ‹(!decide ((shellLine G s[i]).2 = 0)) = false›
  rw [if_neg (by rw [h2]; decide)] at hg
  conv=>whnf
  skip
  refine ⟨G,s[i].to,(shellLine G s[i]).1,rfl,?_⟩
  repeat' first | (refine fun (b : Bool) hb=>?_; cases b <;> (first | exact absurd hb (by decide) | exact Bool.noConfusion (show true = false from hb) | exact Bool.noConfusion (show false = true from hb) | skip)) | refine And.intro (a:=I64 _) ?_ ?_ | fail
  · have hm : s.length ≤ MAXL:=by assumption
    unfold I64; unfold MAXL at hm
    dsimp only
    omega
  · have h3 : (putS G s[i].to (shellLine G s[i]).1).2 = 0:=by simpa using ‹(!decide ((putS G s[i].to (shellLine G s[i]).1).2 = 0)) = false›
    rw [if_neg (by rw [h3]; decide)] at hg
    conv=>whnf
    skip
    refine ⟨(i + 1,(putS G s[i].to (shellLine G s[i]).1).1),(by (refine wk_auto ?_; refine Sel4.mk rfl rfl ?_ ?_ <;> (repeat' (first | exact True.intro | exact rfl | exact Or.inl rfl | exact Or.inr rfl | refine And.intro ?_ ?_ | fail)))),⟨hlt,hg⟩,by show s.length - (i + 1) < s.length - i; omega⟩
  · have h3 : (putS G s[i].to (shellLine G s[i]).1).2 ≠ 0:=by simpa using ‹(!decide ((putS G s[i].to (shellLine G s[i]).1).2 = 0)) = true›
    rw [if_pos h3] at hg
    conv=>whnf
    skip
    refine ⟨FileS,fileV,?_⟩
    exact hone _ hg.symm
end Gv
namespace Gv
variable [Glob] [Laid]
theorem dropWhile_le {α : Type} (p : α → Bool) : ∀ l : List α,(l.dropWhile p).length ≤ l.length
  | []=>Nat.le_refl _
  | x :: l=>by
    unfold List.dropWhile
    split
    · have:=dropWhile_le p l
      simp; omega
    · exact Nat.le_refl _
theorem trimS_le (s cs : Bs) : (Lib.trimS s cs).length ≤ s.length:=by
  unfold Lib.trimS Lib.trimLeftS Lib.trimRightS
  refine Nat.le_trans (dropWhile_le _ _) ?_
  rw [List.length_reverse]
  refine Nat.le_trans (dropWhile_le _ _) ?_
  rw [List.length_reverse]
  exact Nat.le_refl _
theorem trimS_ca : callable Tryz.prog 140 = true:=by kernel_rfl
def trimS_S : Spec:=fun args K=>∃ (s cs : Bs),args = [.str s,.str cs] ∧ (cs.length < 4294967281 ∧ cs.all (fun b=>decide (b.toNat < 128)) = true) ∧ K (.str (Lib.trimS s cs))
set_option maxHeartbeats 4000000 in
theorem trimS_ok : Pure Tryz.prog 140 trimS_S:=by
  intro w m args us K hm hg hv hT
  obtain ⟨s,cs,rfl,⟨h1,h2⟩,hK⟩:=hT
  obtain ⟨a,b,rfl,ha,hb⟩:=args2 hv.1 hv.2
  obtain ⟨rfl,hs⟩:=vr_str ha
  obtain ⟨rfl,-⟩:=vr_str hb
  refine (Any.strings_Trim_laid Tryz.laysTrim (by kernel_rfl) (ba s) (ba cs) w (by rw [ba_size]; exact hs) (by rw [ba_size]; exact h1) (ascii_of_all h2)).mono fun e w' ⟨he,hw⟩=>?_
  exact ⟨_,_,he,Bel.of_below hw,hK,.str (Nat.le_trans (trimS_le s cs) hs)⟩
end Gv
namespace Gv
variable [Glob] [Laid]
def letters : Bs:=[97,98,99,100,101,102,103,104,105,106,107,108,109,110,111,112,113,114,115,116,117,118,119,120,121,122,48,49,50,51,52,53,54,55,56,57]
theorem letters_word (c : UInt8) : letters.contains c = wordByte c:=by
  have h : ∀ n : Fin 256,letters.contains (UInt8.ofNat n.1) = wordByte (UInt8.ofNat n.1):=by decide +kernel
  have:=h ⟨c.toNat,c.toNat_lt⟩
  simpa using this
theorem dropWhile_nil {α : Type} (p : α → Bool) : ∀ l : List α,l.dropWhile p = [] ↔ l.all p = true
  | []=>by simp
  | x :: l=>by
    unfold List.dropWhile
    split
    · rename_i h
      rw [dropWhile_nil p l]
      simp [h]
    · rename_i h
      simp [h]
theorem dropWhile_head {α : Type} (p : α → Bool) : ∀ (l : List α) x r,l.dropWhile p = x :: r → p x = false
  | [],x,r,h=>by simp at h
  | y :: l,x,r,h=>by
    unfold List.dropWhile at h
    split at h
    · exact dropWhile_head p l x r h
    · rename_i hy
      cases h
      simpa using hy
theorem trim_nil (s cs : Bs) : Lib.trimS s cs = [] ↔ s.all (fun c=>cs.contains c) = true:=by
  unfold Lib.trimS Lib.trimLeftS Lib.trimRightS
  have e : s.all (fun c=>cs.contains c) = s.reverse.all (fun c=>cs.contains c):=by simp
  rw [dropWhile_nil,e,← dropWhile_nil (fun c=>cs.contains c) s.reverse]
  cases hd : s.reverse.dropWhile (fun c=>cs.contains c) with
  | nil=>simp
  | cons x r =>
    have:=dropWhile_head _ _ _ _ hd
    simp at this
    simp [this]
theorem isWordR_ca : callable Tryz.prog 82 = true:=by kernel_rfl
def isWordR_S : Spec:=fun args K=>∃ (s : Bs),args = [.str s] ∧ K (.bool (isWord s))
noncomputable def isWordR_lib : List (Nat × Spec):=[(140,trimS_S)]
noncomputable def isWordR_fns : List (Nat × FnI):=[]
noncomputable def isWordR_prims : List (Nat × PSpec):=[]
theorem isWordR_E : EnvOK ⟨Tryz.prog,tys,isWordR_lib,isWordR_fns,isWordR_prims,[]⟩:=env_ok mixed0 tys0 (.cons trimS_ca trimS_ok .nil) .nil .nil rfl
set_option maxHeartbeats 4000000 in
theorem isWordR_ok : Pure Tryz.prog 82 isWordR_S:=by
  refine pure_by isWordR_E 6 (fi:={fn:=Tryz.f82,hooks:=[],draws:=[]}) ⟨Tryz.func82,by kernel_rfl,by kernel_rfl⟩ ?_
  rintro _ K ⟨s,rfl,hK⟩
  replace hK : ∀ r,r = .bool (isWord s) → K r:=fun r h=>h ▸ hK
  repeat' first | (refine fun (b : Bool) hb=>?_; cases b <;> (first | exact absurd hb (by decide) | exact Bool.noConfusion (show true = false from hb) | exact Bool.noConfusion (show false = true from hb) | skip)) | (refine fun (hl : _ ≤ MAXL)=>?_) | fail
  · refine hK _ ?_
    have : s = []:=by
      have h : decide ((0 : Int) < s.length) = false:=by assumption
      have : ¬ (0 : Int) < s.length:=by simpa using h
      exact List.length_eq_zero_iff.1 (by omega)
    subst this
    rfl
  · refine hK _ ?_
    have h : decide ((s.length : Int) ≤ 12) = false:=by assumption
    have : ¬ (s.length : Int) ≤ 12:=by simpa using h
    have h2 : ¬ s.length ≤ 12:=by omega
    simp [isWord,h2]
  · refine ⟨s,letters,rfl,⟨by decide,by decide⟩,?_⟩
    skip
    refine hK _ ?_
    have h : decide ((s.length : Int) ≤ 12) = true:=by assumption
    have h1 : (s.length : Int) ≤ 12:=by simpa using h
    have h2 : s.length ≤ 12:=by omega
    have h : decide ((0 : Int) < s.length) = true:=by assumption
    have h3 : (0 : Int) < s.length:=by simpa using h
    have h4 : s ≠ []:=fun e=>by subst e; simp at h3
    have e : s.all wordByte = s.all (fun c=>letters.contains c):=by
      congr 1
      funext c
      exact (letters_word c).symm
    have e2:=trim_nil s letters
    congr 1
    simp only [isWord,h2,h4,e,ne_eq,not_false_eq_true,decide_true,Bool.true_and]
    generalize s.all (fun c=>letters.contains c) = t at e2 ⊢
    cases t
    · simpa using e2
    · simpa using e2
end Gv
namespace Gv
variable [Glob] [Laid]
theorem leq_not (a b : Bs) : (Op.bytesLess a b || decide (a = b)) = !Op.bytesLess b a:=by
  rw [less_eq,less_eq]
  by_cases h1 : b < a
  · have h2 : ¬ a < b:=fun h=>List.lt_irrefl _ (List.lt_trans h h1)
    have h3 : ¬ a = b:=fun e=>by subst e; exact List.lt_irrefl _ h1
    simp [h1,h2,h3]
  · by_cases e : a = b
    · subst e
      simp [h1]
    · have h2 : a < b:=Decidable.byContradiction fun h=>e (List.le_antisymm h1 h)
      simp [h1,h2]
theorem cfilesR_ca : callable Tryz.prog 30 = true:=by kernel_rfl
def cfilesR_S : Spec:=fun args K=>∃ l : List FileS,args = [.sl fileV l] ∧ K (.int .i64 (checkFiles l))
noncomputable def cfilesR_lib : List (Nat × Spec):=[(82,isWordR_S)]
noncomputable def cfilesR_fns : List (Nat × FnI):=[]
noncomputable def cfilesR_prims : List (Nat × PSpec):=[]
theorem cfilesR_E : EnvOK ⟨Tryz.prog,tys,cfilesR_lib,cfilesR_fns,cfilesR_prims,[]⟩:=env_ok mixed0 tys0 (.cons isWordR_ca isWordR_ok .nil) .nil .nil rfl
set_option maxHeartbeats 8000000 in
theorem cfilesR_ok : Pure Tryz.prog 30 cfilesR_S:=by
  refine pure_by cfilesR_E 6 (fi:={fn:=Tryz.f30,hooks:=[],draws:=[(10,[0,1,3,7,15,7,7,71,231,487,999,2047,4095,8191])]}) ⟨Tryz.func30,by kernel_rfl,by kernel_rfl⟩ ?_
  rintro _ K ⟨l,rfl,hK⟩
  replace hK : ∀ r,r = .int .i64 (checkFiles l) → K r:=fun r h=>h ▸ hK
  repeat' first | (refine fun (b : Bool) hb=>?_; cases b <;> (first | exact absurd hb (by decide) | exact Bool.noConfusion (show true = false from hb) | exact Bool.noConfusion (show false = true from hb) | skip)) | (refine fun (hl : _ ≤ MAXL)=>?_) | fail
  rotate_left
  · refine hK _ ?_
    have h:=of_decide_eq_true (by assumption : decide ((12 : Int) < (l.length : Int)) = true)
    unfold checkFiles
    rw [if_pos (by omega)]
  have h12 : ¬ 12 < l.length:=by
    have h:=of_decide_eq_false (by assumption : decide ((12 : Int) < (l.length : Int)) = false)
    omega
  have hcf : checkFiles l = filesGo none l:=by unfold checkFiles; rw [if_neg h12]
  rw [hcf] at hK
  conv=>whnf
  refine loop_live [0,8,9] (σ:=Nat) (fun i=>[(10,.int .i64 i)]) (fun i=>[]) (fun i=>i ≤ l.length ∧ filesGo (prevN l i) (l.drop i) = filesGo none l) (fun i=>l.length - i) 0 ?_
  conv=>whnf
  refine ⟨(by (refine wk_auto ?_; refine Sel4.mk rfl rfl ?_ ?_ <;> (repeat' (first | exact True.intro | exact rfl | exact Or.inl rfl | exact Or.inr rfl | refine And.intro ?_ ?_ | fail)))),⟨Nat.zero_le _,rfl⟩,fun i hi=>?_⟩
  obtain ⟨hi,hg⟩:=hi
  repeat' first | (refine fun (b : Bool) hb=>?_; cases b <;> (first | exact absurd hb (by decide) | exact Bool.noConfusion (show true = false from hb) | exact Bool.noConfusion (show false = true from hb) | skip)) | refine ⟨_,rfl,?_,rfl,?_⟩ | fail
  · have h:=of_decide_eq_false (by assumption : decide ((i : Int) < (l.length : Int)) = false)
    have e : l.drop i = []:=List.drop_eq_nil_of_le (by omega)
    rw [e] at hg
    conv=>whnf
    refine hK _ ?_
    rw [← hg]
    rfl
  · have h:=of_decide_eq_true (by assumption : decide ((i : Int) < (l.length : Int)) = true)
    show i < l.length
    omega
  have hlt : i < l.length:=by
    have h:=of_decide_eq_true (by assumption : decide ((i : Int) < (l.length : Int)) = true)
    omega
  rw [filesGo_at hlt] at hg
  refine ⟨l[i].name,rfl,?_⟩
  repeat' first | exact True.intro | (refine fun (b : Bool) hb=>?_; cases b <;> (first | exact absurd hb (by decide) | exact Bool.noConfusion (show true = false from hb) | exact Bool.noConfusion (show false = true from hb) | skip)) | (refine fun (hl : _ ≤ MAXL)=>?_) | refine And.intro (a:=I64 _) ?_ ?_ | refine ⟨_,⟨rfl,rfl⟩,?_⟩ | refine ⟨_,And.intro (a:=I64 _) ?_ ⟨rfl,rfl⟩,?_⟩ | refine And.intro (a:=chkPast _ _ _ _ _ _ _ _) ?_ ?_ | fail
  · unfold I64; omega
  · have h1 : isWord l[i].name = true := by
      have h : (!isWord l[i].name) = false:=by assumption
      simpa using h
    have h2 : ¬ (4000 : Int) < (l[i].b.length : Int):=of_decide_eq_false (by assumption)
    have h3 : ¬ (0 : Int) < (i : Int):=of_decide_eq_false (by assumption)
    have e0 : i = 0:=by omega
    have h4 : notRise (prevN l i) l[i].name = false:=by
      have : prevN l i = none:=by unfold prevN; rw [if_pos e0]
      rw [this]; rfl
    rw [if_neg (by rw [h1]; decide),if_neg (by omega),if_neg (by rw [h4]; decide)] at hg
    exact ⟨i + 1,(by (refine wk_auto ?_; refine Sel4.mk rfl rfl ?_ ?_ <;> (repeat' (first | exact True.intro | exact rfl | exact Or.inl rfl | exact Or.inr rfl | refine And.intro ?_ ?_ | fail)))),⟨hlt,hg⟩,by omega⟩
  · unfold I64; omega
  · have h1 : isWord l[i].name = true := by
      have h : (!isWord l[i].name) = false:=by assumption
      simpa using h
    have h2 : ¬ (4000 : Int) < (l[i].b.length : Int):=of_decide_eq_false (by assumption)
    have h3 : (0 : Int) < (i : Int):=of_decide_eq_true (by assumption)
    have hp : prevN l i = some (l[i - 1]'(by omega)).name:=by
      unfold prevN
      rw [if_neg (by omega),List.getD_eq_getElem?_getD,List.getElem?_eq_getElem (by omega)]
      rfl
    rw [if_neg (by rw [h1]; decide),if_neg (by omega),hp] at hg
    conv=>whnf
    refine ⟨_,⟨i - 1,by omega,by omega,rfl,rfl,rfl⟩,?_⟩
    repeat' first | (refine fun (b : Bool) hb=>?_; cases b <;> (first | exact absurd hb (by decide) | exact Bool.noConfusion (show true = false from hb) | exact Bool.noConfusion (show false = true from hb) | skip)) | refine And.intro (a:=I64 _) ?_ ?_ | refine ⟨_,⟨rfl,rfl⟩,?_⟩ | fail
    · unfold I64; omega
    · have h4 : notRise (some (l[i - 1]'(by omega)).name) l[i].name = false := by
        have h : (Op.bytesLess l[i].name (l[i - 1]'(by omega)).name || decide (l[i].name = (l[i - 1]'(by omega)).name)) = false:=by assumption
        rw [leq_not] at h
        exact h
      rw [if_neg (by rw [h4]; decide)] at hg
      exact ⟨i + 1,(by (refine wk_auto ?_; refine Sel4.mk rfl rfl ?_ ?_ <;> (repeat' (first | exact True.intro | exact rfl | exact Or.inl rfl | exact Or.inr rfl | refine And.intro ?_ ?_ | fail)))),⟨hlt,hg⟩,by omega⟩
    · have h4 : notRise (some (l[i - 1]'(by omega)).name) l[i].name = true := by
        have h : (Op.bytesLess l[i].name (l[i - 1]'(by omega)).name || decide (l[i].name = (l[i - 1]'(by omega)).name)) = true:=by assumption
        rw [leq_not] at h
        exact h
      rw [if_pos h4] at hg
      conv=>whnf
      exact hK _ (by rw [← hg])
  · have h1 : isWord l[i].name = true := by
      have h : (!isWord l[i].name) = false:=by assumption
      simpa using h
    have h2 : (4000 : Int) < (l[i].b.length : Int):=of_decide_eq_true (by assumption)
    rw [if_neg (by rw [h1]; decide),if_pos (by omega)] at hg
    conv=>whnf
    exact hK _ (by rw [← hg])
  · have h1 : isWord l[i].name = false := by
      have h : (!isWord l[i].name) = true:=by assumption
      simpa using h
    rw [if_pos h1] at hg
    conv=>whnf
    exact hK _ (by rw [← hg])
end Gv
namespace Gv
variable [Glob] [Laid] [Nums]
def lineV2 (F : List FileS) (x : LineS) : Bs × Int:=if (gatherS F x.frm).2 ≠ 0 then ([],(gatherS F x.frm).2) else lineBytes (doLines x.cmds (linesOf (gatherS F x.frm).1))
def shA : FileS:=⟨[97],[50,10,49]⟩
def shB : FileS:=⟨[98],[48]⟩
def shC : FileS:=⟨[99],[48,10,49,10,50,10]⟩
def shD : FileS:=⟨[97],[51,10]⟩
def shX : LineS:=⟨[[97],[98],[120]],[⟨6,[],0⟩],[99]⟩
def shY : LineS:=⟨[[99]],[⟨8,[],0⟩],[97]⟩
theorem sh1 : gatherS [shA,shB] shX.frm = ([50,10,49,10,48,10],0):=by decide +kernel
theorem sh2 : gatherS [shA,shB,shC] shY.frm = ([48,10,49,10,50,10],0):=by decide +kernel
theorem sh3 : lineV2 [shA,shB] shX = ([48,10,49,10,50,10],0):=by
  unfold lineV2
  rw [sh1,if_neg (by decide),show linesOf ([50,10,49,10,48,10],(0 : Int)).1 = [[50],[49],[48]] by decide +kernel]
  show lineBytes (linesC ⟨6,[],0⟩ [[50],[49],[48]]) = _
  rw [show linesC ⟨6,[],0⟩ [[50],[49],[48]] = sortB [[50],[49],[48]] from rfl,sortB_of (l':=[[48],[49],[50]]) (by decide) (by decide)]
  decide +kernel
theorem sh4 : lineV2 [shA,shB,shC] shY = ([51,10],0):=by
  unfold lineV2
  rw [sh2,if_neg (by decide)]
  decide +kernel
theorem sh5 : putS [shA,shB] [99] [48,10,49,10,50,10] = ([shA,shB,shC],0):=by decide +kernel
theorem sh6 : putS [shA,shB,shC] [97] [51,10] = ([shD,shB,shC],0):=by decide +kernel
theorem sh7 : checkFiles [shA,shB] = 0:=by decide +kernel
theorem sh8 : checkS [shX,shY] = 0 ∧ checkLine shX = 0 ∧ checkLine shY = 0:=by decide +kernel
theorem sh_run {L : List FileS → LineS → Bs × Int} (h : ∀ F x,checkLine x = 0 → L F x = lineV2 F x) : runL L [shA,shB] [shX,shY] = ([shD,shB,shC],0):=by
  unfold runL
  rw [if_neg (by rw [sh7]; decide),if_neg (by rw [sh8.1]; decide),runGoL,h _ _ sh8.2.1,sh3,if_neg (by decide)]
  show (if (putS [shA,shB] [99] [48,10,49,10,50,10]).2 ≠ 0 then _ else runGoL L (putS [shA,shB] [99] [48,10,49,10,50,10]).1 [shY]) = _
  rw [sh5,if_neg (by decide),runGoL,h _ _ sh8.2.2,sh4,if_neg (by decide)]
  show (if (putS [shA,shB,shC] [97] [51,10]).2 ≠ 0 then _ else runGoL L (putS [shA,shB,shC] [97] [51,10]).1 []) = _
  rw [sh6]
  rfl
theorem shellLine_v {F : List FileS} {x : LineS} (h : checkLine x = 0) : shellLine F x = lineV2 F x:=by
  unfold shellLine
  rw [if_neg (by rw [h]; decide)]
  rfl
theorem sh_run2 : runL shellLine [shA,shB] [shX,shY] = ([shD,shB,shC],0):=sh_run fun F x h=>shellLine_v h
end Gv
namespace Gv
variable [Glob] [Laid] [Nums]
theorem shelledF_ca : callable Tryz.prog 31 = true:=by kernel_rfl
def shelledF_S : Spec:=fun args K=>args = [] ∧ K (.bool true)
noncomputable def shelledF_lib : List (Nat × Spec):=[(29,runS_S)]
noncomputable def shelledF_fns : List (Nat × FnI):=[]
noncomputable def shelledF_prims : List (Nat × PSpec):=[]
theorem shelledF_E : EnvOK ⟨Tryz.prog,tys,shelledF_lib,shelledF_fns,shelledF_prims,[]⟩:=env_ok mixed0 tys0 (.cons runS_ca runS_ok .nil) .nil .nil rfl
set_option maxHeartbeats 8000000 in
set_option maxRecDepth 10000 in
theorem shelledF_ok : Pure Tryz.prog 31 shelledF_S:=by
  refine pure_by shelledF_E 6 (fi:={fn:=Tryz.f31,hooks:=[],draws:=[]}) ⟨Tryz.func31,by kernel_rfl,by kernel_rfl⟩ ?_
  rintro _ K ⟨rfl,hK⟩
  replace hK : ∀ r,r = .bool true → K r:=fun r h=>h ▸ hK
  skip
  conv=>whnf
  refine ⟨[50,10,49],rfl,by decide,?_⟩
  skip
  refine ⟨[48],rfl,by decide,?_⟩
  skip
  first
    | refine ⟨Bs,strV,[[97],[98],[120]],LeL.refl _,?_⟩
    | refine ⟨Bs,strV,[[99]],LeL.refl _,?_⟩
    | refine ⟨Cmd,cmdV,[⟨6,[],0⟩],LeL.refl _,?_⟩
    | refine ⟨Cmd,cmdV,[⟨8,[],0⟩],LeL.refl _,?_⟩
    | refine ⟨FileS,fileV,[shA,shB],LeL.refl _,?_⟩
    | refine ⟨LineS,lineV,[shX,shY],LeL.refl _,?_⟩
  skip
  first
    | refine ⟨Bs,strV,[[97],[98],[120]],LeL.refl _,?_⟩
    | refine ⟨Bs,strV,[[99]],LeL.refl _,?_⟩
    | refine ⟨Cmd,cmdV,[⟨6,[],0⟩],LeL.refl _,?_⟩
    | refine ⟨Cmd,cmdV,[⟨8,[],0⟩],LeL.refl _,?_⟩
    | refine ⟨FileS,fileV,[shA,shB],LeL.refl _,?_⟩
    | refine ⟨LineS,lineV,[shX,shY],LeL.refl _,?_⟩
  skip
  first
    | refine ⟨Bs,strV,[[97],[98],[120]],LeL.refl _,?_⟩
    | refine ⟨Bs,strV,[[99]],LeL.refl _,?_⟩
    | refine ⟨Cmd,cmdV,[⟨6,[],0⟩],LeL.refl _,?_⟩
    | refine ⟨Cmd,cmdV,[⟨8,[],0⟩],LeL.refl _,?_⟩
    | refine ⟨FileS,fileV,[shA,shB],LeL.refl _,?_⟩
    | refine ⟨LineS,lineV,[shX,shY],LeL.refl _,?_⟩
  skip
  first
    | refine ⟨Bs,strV,[[97],[98],[120]],LeL.refl _,?_⟩
    | refine ⟨Bs,strV,[[99]],LeL.refl _,?_⟩
    | refine ⟨Cmd,cmdV,[⟨6,[],0⟩],LeL.refl _,?_⟩
    | refine ⟨Cmd,cmdV,[⟨8,[],0⟩],LeL.refl _,?_⟩
    | refine ⟨FileS,fileV,[shA,shB],LeL.refl _,?_⟩
    | refine ⟨LineS,lineV,[shX,shY],LeL.refl _,?_⟩
  skip
  first
    | refine ⟨Bs,strV,[[97],[98],[120]],LeL.refl _,?_⟩
    | refine ⟨Bs,strV,[[99]],LeL.refl _,?_⟩
    | refine ⟨Cmd,cmdV,[⟨6,[],0⟩],LeL.refl _,?_⟩
    | refine ⟨Cmd,cmdV,[⟨8,[],0⟩],LeL.refl _,?_⟩
    | refine ⟨FileS,fileV,[shA,shB],LeL.refl _,?_⟩
    | refine ⟨LineS,lineV,[shX,shY],LeL.refl _,?_⟩
  skip
  first
    | refine ⟨Bs,strV,[[97],[98],[120]],LeL.refl _,?_⟩
    | refine ⟨Bs,strV,[[99]],LeL.refl _,?_⟩
    | refine ⟨Cmd,cmdV,[⟨6,[],0⟩],LeL.refl _,?_⟩
    | refine ⟨Cmd,cmdV,[⟨8,[],0⟩],LeL.refl _,?_⟩
    | refine ⟨FileS,fileV,[shA,shB],LeL.refl _,?_⟩
    | refine ⟨LineS,lineV,[shX,shY],LeL.refl _,?_⟩
  skip
  refine ⟨[shA,shB],[shX,shY],rfl,?_⟩
  rw [sh_run2]
  repeat' first | (refine fun (b : Bool) hb=>?_; cases b <;> (first | exact absurd hb (by decide) | exact Bool.noConfusion (show true = false from hb) | exact Bool.noConfusion (show false = true from hb) | skip)) | (refine fun (hl : _ ≤ MAXL)=>?_) | refine ⟨_,rfl,?_,rfl,?_⟩ | refine ⟨_,(fun _=>rfl),rfl,?_⟩ | fail
  conv=>whnf
  skip
  · show 0 < 3; decide
  · show 2 < 3; decide
  conv=>whnf
  skip
  conv=>whnf
  exact hK _ rfl
end Gv
namespace Gv
variable [Glob] [Laid]
theorem equalB_ca : callable Tryz.prog 18 = true:=by kernel_rfl
def equalB_S : Spec:=fun args K=>∃ a b : List UInt8,args = [.sl byteV a,.sl byteV b] ∧ K (.bool (decide (a = b)))
noncomputable def equalB_lib : List (Nat × Spec):=[]
noncomputable def equalB_fns : List (Nat × FnI):=[]
noncomputable def equalB_prims : List (Nat × PSpec):=[]
theorem equalB_E : EnvOK ⟨Tryz.prog,tys,equalB_lib,equalB_fns,equalB_prims,[]⟩:=env_ok mixed0 tys0 .nil .nil .nil rfl
set_option maxHeartbeats 4000000 in
theorem equalB_ok : Pure Tryz.prog 18 equalB_S:=by
  refine pure_by equalB_E 6 (fi:={fn:=Tryz.f18,hooks:=[],draws:=[(6,[0,0,3,7,0,0,48,112,255])]}) ⟨Tryz.func18,by kernel_rfl,by kernel_rfl⟩ ?_
  rintro _ K ⟨x,y,rfl,hK⟩
  replace hK : ∀ r,r = .bool (decide (x = y)) → K r:=fun r h=>h ▸ hK
  repeat' first | (refine fun (b : Bool) hb=>?_; cases b <;> (first | exact absurd hb (by decide) | exact Bool.noConfusion (show true = false from hb) | exact Bool.noConfusion (show false = true from hb) | skip)) | (refine fun (hl : _ ≤ MAXL)=>?_) | fail
  rotate_left
  · refine hK _ ?_
    congr 1
    grind
  conv=>whnf
  refine loop_intro (σ:=Nat) (fun i=>[(0,.sl byteV x),(1,.sl byteV y),(12,.int .i64 x.length),(13,.int .i64 i),(4,.lit false)]) (fun _=>[]) (fun i=>i ≤ x.length ∧ x.take i = y.take i) (fun i=>x.length - i) 0 (wk_sel [] rfl rfl trivial ?_) ⟨Nat.zero_le _,rfl⟩ ?_
  · (repeat' (first | exact True.intro | exact rfl | exact Or.inl rfl | exact Or.inr rfl | refine And.intro ?_ ?_ | fail))
  intro i ⟨hi,hI⟩
  repeat' first | (refine fun (b : Bool) hb=>?_; cases b <;> (first | exact absurd hb (by decide) | exact Bool.noConfusion (show true = false from hb) | exact Bool.noConfusion (show false = true from hb) | skip)) | refine And.intro (a:=I64 _) ?_ ?_ | refine ⟨_,⟨rfl,rfl⟩,?_⟩ | refine ⟨_,⟨_,rfl,?_,rfl,rfl,rfl⟩,?_⟩ | fail
  · refine hK _ ?_
    congr 1
    have e : x = y:=by
      have h1 : x.take i = x:=List.take_of_length_le (by grind)
      have h2 : y.take i = y:=List.take_of_length_le (by grind)
      rw [← h1,← h2,hI]
    simp [e]
  · grind
  · grind
  · unfold I64; grind
  · refine ⟨i + 1,?_,⟨?_,?_⟩,?_⟩
    · refine wk_sel [] rfl rfl trivial ?_
      (repeat' (first | exact True.intro | exact rfl | exact Or.inl rfl | exact Or.inr rfl | refine And.intro ?_ ?_ | fail))
    · grind
    · have g1 : i < x.length:=by grind
      have g2 : i < y.length:=by grind
      rw [List.take_succ_eq_append_getElem g1,List.take_succ_eq_append_getElem g2,hI]
      have e : x[i].toNat = y[i].toNat:=by grind
      rw [UInt8.toNat_inj.1 e]
    · grind
  · refine hK _ ?_
    congr 1
    grind
end Gv
namespace Gv
variable [Glob] [Laid]
theorem files_eqS {a b : FileS} (h1 : a.name = b.name) (h2 : a.b = b.b) : a = b:=by
  cases a; cases b; simp only at h1 h2; subst h1; subst h2; rfl
theorem sameFS_ca : callable Tryz.prog 33 = true:=by kernel_rfl
def sameFS_S : Spec:=fun args K=>∃ a b : List FileS,args = [.sl fileV a,.sl fileV b] ∧ K (.bool (decide (a = b)))
noncomputable def sameFS_lib : List (Nat × Spec):=[(18,equalB_S)]
noncomputable def sameFS_fns : List (Nat × FnI):=[(58,{fn:=Tryz.f58,hooks:=[],draws:=[]}),(83,{fn:=Tryz.f83,hooks:=[],draws:=[]})]
noncomputable def sameFS_prims : List (Nat × PSpec):=[]
theorem sameFS_E : EnvOK ⟨Tryz.prog,tys,sameFS_lib,sameFS_fns,sameFS_prims,[]⟩:=env_ok mixed0 tys0 (.cons equalB_ca equalB_ok .nil) (.cons (by kernel_rfl) ⟨Tryz.func58,by kernel_rfl,by kernel_rfl⟩ (.cons (by kernel_rfl) ⟨Tryz.func83,by kernel_rfl,by kernel_rfl⟩ .nil)) .nil rfl
set_option maxHeartbeats 4000000 in
theorem sameFS_ok : Pure Tryz.prog 33 sameFS_S:=by
  refine pure_by sameFS_E 6 (fi:={fn:=Tryz.f33,hooks:=[],draws:=[]}) ⟨Tryz.func33,by kernel_rfl,by kernel_rfl⟩ ?_
  rintro _ K ⟨x,y,rfl,hK⟩
  replace hK : ∀ r,r = .bool (decide (x = y)) → K r:=fun r h=>h ▸ hK
  repeat' first | (refine fun (b : Bool) hb=>?_; cases b <;> (first | exact absurd hb (by decide) | exact Bool.noConfusion (show true = false from hb) | exact Bool.noConfusion (show false = true from hb) | skip)) | (refine fun (hl : _ ≤ MAXL)=>?_) | fail
  rotate_left
  · refine hK _ ?_
    congr 1
    grind
  conv=>whnf
  refine loop_live [1,2,15,16] (σ:=Nat) (fun i=>[(17,.int .i64 i)]) (fun _=>[]) (fun i=>i ≤ x.length ∧ x.take i = y.take i) (fun i=>x.length - i) 0 ?_
  conv=>whnf
  refine ⟨(by (refine wk_auto ?_; refine Sel4.mk rfl rfl ?_ ?_ <;> (repeat' (first | exact True.intro | exact rfl | exact Or.inl rfl | exact Or.inr rfl | refine And.intro ?_ ?_ | fail)))),⟨Nat.zero_le _,rfl⟩,?_⟩
  intro i ⟨hi,hI⟩
  have hlen : x.length = y.length:=by
    have h : (!decide ((x.length : Int) = (y.length : Int))) = false:=by assumption
    have h2 : (x.length : Int) = (y.length : Int):=by simpa using h
    omega
  repeat' first | (refine fun (b : Bool) hb=>?_; cases b <;> (first | exact absurd hb (by decide) | exact Bool.noConfusion (show true = false from hb) | exact Bool.noConfusion (show false = true from hb) | skip)) | refine ⟨_,rfl,?_,rfl,?_⟩ | fail
  · have hix : i = x.length := by
      have h:=of_decide_eq_false (by assumption : decide ((i : Int) < (x.length : Int)) = false)
      omega
    subst hix
    rw [List.take_length,hlen,List.take_length] at hI
    conv=>whnf
    skip
    refine hK _ ?_
    congr 1
    exact (decide_eq_true hI).symm
  all_goals
    have g1 : i < x.length:=by
      have h:=of_decide_eq_true (by assumption : decide ((i : Int) < (x.length : Int)) = true)
      omega
    have g2 : i < y.length:=by omega
  · exact g1
  · exact g2
  · conv=>whnf
    skip
    refine hK _ ?_
    congr 1
    have hn : ¬ x[i].name = y[i].name:=of_decide_eq_false (by assumption)
    exact (decide_eq_false fun h=>hn (by subst h; rfl)).symm
  · have hn : x[i].name = y[i].name:=of_decide_eq_true (by assumption)
    conv=>whnf
    skip
    refine ⟨x[i].b,y[i].b,rfl,?_⟩
    repeat' first | (refine fun (b : Bool) hb=>?_; cases b <;> (first | exact absurd hb (by decide) | exact Bool.noConfusion (show true = false from hb) | exact Bool.noConfusion (show false = true from hb) | skip)) | refine And.intro (a:=I64 _) ?_ ?_ | fail
    · have hm : x.length ≤ MAXL:=by assumption
      unfold I64; unfold MAXL at hm; omega
    · conv=>whnf
      skip
      have hbb : x[i].b = y[i].b:=by simpa using ‹(!decide (x[i].b = y[i].b)) = false›
      refine ⟨i + 1,(by (refine wk_auto ?_; refine Sel4.mk rfl rfl ?_ ?_ <;> (repeat' (first | exact True.intro | exact rfl | exact Or.inl rfl | exact Or.inr rfl | refine And.intro ?_ ?_ | fail)))),⟨g1,?_⟩,by omega⟩
      rw [List.take_succ_eq_append_getElem g1,List.take_succ_eq_append_getElem g2,hI,files_eqS hn hbb]
    · have hbb : ¬ x[i].b = y[i].b:=by simpa using ‹(!decide (x[i].b = y[i].b)) = true›
      conv=>whnf
      skip
      refine hK _ ?_
      congr 1
      exact (decide_eq_false fun h=>hbb (by subst h; rfl)).symm
end Gv
namespace Gv
variable [Glob] [Laid]
theorem files_eq {a b : FileS} (h1 : a.name = b.name) (h2 : a.b = b.b) : a = b:=by
  cases a; cases b; simp only at h1 h2; subst h1; subst h2; rfl
theorem sameF_ca : callable Tryz.prog 15 = true:=by kernel_rfl
def sameF_S : Spec:=fun args K=>∃ a b : List FileS,args = [.sl fileV a,.sl fileV b] ∧ K (.bool (decide (a = b)))
noncomputable def sameF_lib : List (Nat × Spec):=[(18,equalB_S)]
noncomputable def sameF_fns : List (Nat × FnI):=[(58,{fn:=Tryz.f58,hooks:=[],draws:=[]}),(59,{fn:=Tryz.f59,hooks:=[],draws:=[]})]
noncomputable def sameF_prims : List (Nat × PSpec):=[]
theorem sameF_E : EnvOK ⟨Tryz.prog,tys,sameF_lib,sameF_fns,sameF_prims,[]⟩:=env_ok mixed0 tys0 (.cons equalB_ca equalB_ok .nil) (.cons (by kernel_rfl) ⟨Tryz.func58,by kernel_rfl,by kernel_rfl⟩ (.cons (by kernel_rfl) ⟨Tryz.func59,by kernel_rfl,by kernel_rfl⟩ .nil)) .nil rfl
set_option maxHeartbeats 4000000 in
theorem sameF_ok : Pure Tryz.prog 15 sameF_S:=by
  refine pure_by sameF_E 6 (fi:={fn:=Tryz.f15,hooks:=[],draws:=[]}) ⟨Tryz.func15,by kernel_rfl,by kernel_rfl⟩ ?_
  rintro _ K ⟨x,y,rfl,hK⟩
  replace hK : ∀ r,r = .bool (decide (x = y)) → K r:=fun r h=>h ▸ hK
  repeat' first | (refine fun (b : Bool) hb=>?_; cases b <;> (first | exact absurd hb (by decide) | exact Bool.noConfusion (show true = false from hb) | exact Bool.noConfusion (show false = true from hb) | skip)) | (refine fun (hl : _ ≤ MAXL)=>?_) | fail
  rotate_left
  · refine hK _ ?_
    congr 1
    grind
  conv=>whnf
  refine loop_live [1,2,15,16] (σ:=Nat) (fun i=>[(17,.int .i64 i)]) (fun _=>[]) (fun i=>i ≤ x.length ∧ x.take i = y.take i) (fun i=>x.length - i) 0 ?_
  conv=>whnf
  refine ⟨(by (refine wk_auto ?_; refine Sel4.mk rfl rfl ?_ ?_ <;> (repeat' (first | exact True.intro | exact rfl | exact Or.inl rfl | exact Or.inr rfl | refine And.intro ?_ ?_ | fail)))),⟨Nat.zero_le _,rfl⟩,?_⟩
  intro i ⟨hi,hI⟩
  have hlen : x.length = y.length:=by
    have h : (!decide ((x.length : Int) = (y.length : Int))) = false:=by assumption
    have h2 : (x.length : Int) = (y.length : Int):=by simpa using h
    omega
  repeat' first | (refine fun (b : Bool) hb=>?_; cases b <;> (first | exact absurd hb (by decide) | exact Bool.noConfusion (show true = false from hb) | exact Bool.noConfusion (show false = true from hb) | skip)) | refine ⟨_,rfl,?_,rfl,?_⟩ | fail
  · have hix : i = x.length := by
      have h:=of_decide_eq_false (by assumption : decide ((i : Int) < (x.length : Int)) = false)
      omega
    subst hix
    rw [List.take_length,hlen,List.take_length] at hI
    conv=>whnf
    skip
    refine hK _ ?_
    congr 1
    exact (decide_eq_true hI).symm
  all_goals
    have g1 : i < x.length:=by
      have h:=of_decide_eq_true (by assumption : decide ((i : Int) < (x.length : Int)) = true)
      omega
    have g2 : i < y.length:=by omega
  · exact g1
  · exact g2
  · conv=>whnf
    skip
    refine hK _ ?_
    congr 1
    have hn : ¬ x[i].name = y[i].name:=of_decide_eq_false (by assumption)
    exact (decide_eq_false fun h=>hn (by subst h; rfl)).symm
  · have hn : x[i].name = y[i].name:=of_decide_eq_true (by assumption)
    conv=>whnf
    skip
    refine ⟨x[i].b,y[i].b,rfl,?_⟩
    repeat' first | (refine fun (b : Bool) hb=>?_; cases b <;> (first | exact absurd hb (by decide) | exact Bool.noConfusion (show true = false from hb) | exact Bool.noConfusion (show false = true from hb) | skip)) | refine And.intro (a:=I64 _) ?_ ?_ | fail
    · have hm : x.length ≤ MAXL:=by assumption
      unfold I64; unfold MAXL at hm; omega
    · conv=>whnf
      skip
      have hbb : x[i].b = y[i].b:=by simpa using ‹(!decide (x[i].b = y[i].b)) = false›
      refine ⟨i + 1,(by (refine wk_auto ?_; refine Sel4.mk rfl rfl ?_ ?_ <;> (repeat' (first | exact True.intro | exact rfl | exact Or.inl rfl | exact Or.inr rfl | refine And.intro ?_ ?_ | fail)))),⟨g1,?_⟩,by omega⟩
      rw [List.take_succ_eq_append_getElem g1,List.take_succ_eq_append_getElem g2,hI,files_eq hn hbb]
    · have hbb : ¬ x[i].b = y[i].b:=by simpa using ‹(!decide (x[i].b = y[i].b)) = true›
      conv=>whnf
      skip
      refine hK _ ?_
      congr 1
      exact (decide_eq_false fun h=>hbb (by subst h; rfl)).symm
end Gv
namespace Gv
variable [Glob] [Laid]
def outN (n : Bs) (F : List FileS) : List FileS:=F.filter fun x=>decide (x.name ≠ n)
theorem outN_take {n : Bs} {F : List FileS} {i : Nat} (h : i < F.length) : outN n (F.take (i + 1)) = if F[i].name = n then outN n (F.take i) else outN n (F.take i) ++ [F[i]]:=by
  unfold outN
  rw [List.take_succ_eq_append_getElem h,List.filter_append]
  by_cases h1 : F[i].name = n
  · rw [if_pos h1]; simp [h1]
  · rw [if_neg h1]; simp [h1]
theorem outN_le (n : Bs) (F : List FileS) (i : Nat) : (outN n (F.take i)).length ≤ F.length:=by
  unfold outN
  have h1:=List.length_filter_le (fun x : FileS=>decide (x.name ≠ n)) (F.take i)
  rw [List.length_take] at h1
  omega
theorem outN_perm (n : Bs) : ∀ F : List FileS,(outN n F).Perm ((F.filter fun f=>decide (f.name < n)) ++ F.filter fun f=>decide (n < f.name))
  | []=>.nil
  | f :: r=>by
    have ih:=outN_perm n r
    unfold outN at ih ⊢
    rw [List.filter_cons,List.filter_cons,List.filter_cons]
    by_cases h1 : f.name < n
    · have h2 : ¬ f.name = n:=fun e=>bs_irrefl _ (e ▸ h1)
      have h3 : ¬ n < f.name:=fun h=>bs_irrefl _ (bs_trans h1 h)
      rw [if_pos (by simpa using h2),if_pos (by simpa using h1),if_neg (by simpa using h3)]
      exact ih.cons f
    · by_cases h2 : f.name = n
      · rw [if_neg (by simpa using h2),if_neg (by simpa using h1),if_neg (by rw [h2]; simp)]
        exact ih
      · rw [if_pos (by simpa using h2),if_neg (by simpa using h1),if_pos (by simpa using bs_tri h1 h2)]
        exact (ih.cons f).trans List.perm_middle.symm
theorem put_perm2 {n b : Bs} {F : List FileS} (h : Rises F) : (putGo F n b).Perm (outN n F ++ [⟨n,b⟩]):=by
  rw [put_filter h]
  refine List.perm_middle.trans ?_
  refine List.Perm.trans ?_ (List.perm_append_comm (l₁:=[(⟨n,b⟩ : FileS)]))
  exact (outN_perm n F).symm.cons _
theorem put_len2 {n b : Bs} {F : List FileS} (h : Rises F) : (outN n F ++ [(⟨n,b⟩ : FileS)]).length = if isAt F n = true then F.length else F.length + 1:=by
  rw [← (put_perm2 h).length_eq]
  unfold putGo
  split
  · rw [List.length_set]
  · have:=place_le F n
    simp; omega
set_option maxHeartbeats 4000000 in
set_option maxRecDepth 100000 in
theorem putR_less {W : World} {bb b cap n i j : Nat} {x y : Bs} (h0 : W.cell? ⟨bb, 0, none⟩ = some (.slice (some ⟨b, 0, none⟩) n cap)) (hi : i < n) (hj : j < n) (h1 : W.cell? ⟨b, i * 2, none⟩ = some (.string ⟨x.toArray⟩)) (h2 : W.cell? ⟨b, j * 2, none⟩ = some (.string ⟨y.toArray⟩)) :
    Calls Tryz.prog 85 #[.int .i64 i,.int .i64 j,.pointer (some ⟨bb,0,none⟩)] W fun e w'=>e = .returned (.bool (Op.bytesLess x y)) ∧ ∃ q,w' = W.drewN q:=by
  have mixed:=mixed0
  have t1:=Tryz.underlying25; have a1:=Tryz.isAgg25; have z1:=Tryz.sizeOf25; have v1:=Tryz.zeroValue25; have u1:=run_underlying Tryz.underlying25
  have t2:=Tryz.underlying56; have a2:=Tryz.isAgg56; have z2:=Tryz.sizeOf56; have v2:=Tryz.zeroValue56; have u2:=run_underlying Tryz.underlying56
  have t3:=Tryz.underlying3; have a3:=Tryz.isAgg3; have z3:=Tryz.sizeOf3; have v3:=Tryz.zeroValue3; have u3:=run_underlying Tryz.underlying3
  have t4:=Tryz.underlying9; have a4:=Tryz.isAgg9; have z4:=Tryz.sizeOf9; have v4:=Tryz.zeroValue9; have u4:=run_underlying Tryz.underlying9
  have t5:=Tryz.underlying4; have a5:=Tryz.isAgg4; have z5:=Tryz.sizeOf4; have v5:=Tryz.zeroValue4; have u5:=run_underlying Tryz.underlying4
  have d0 : W.drew.cell? ⟨bb,0,none⟩ = some (.slice (some ⟨b,0,none⟩) n cap):=h0
  have d1 : W.drew.cell? ⟨b,i * 2,none⟩ = some (.string ⟨x.toArray⟩):=h1
  have d2 : W.drew.cell? ⟨b,j * 2,none⟩ = some (.string ⟨y.toArray⟩):=h2
  have hi' : (i : Int) < (n : Int):=by omega
  have hj' : (j : Int) < (n : Int):=by omega
  go_enter Tryz.func85,Tryz.ntmps85
  go_wp2
  go_region_o
  all_goals (go_wp2; go_ret; exact ⟨rfl,1,rfl⟩)
noncomputable def putR_T : TypeInfo:=(Tryz.prog.info? 25).get (by kernel_rfl)
noncomputable def putR_TE : TypeInfo:=(Tryz.prog.info? 56).get (by kernel_rfl)
theorem putR_K (n : Nat) (h2 : 2 ≤ n) : Lib.swapperK n putR_TE 25 = 9:=by
  have a : putR_TE.hasPointers = true:=by kernel_rfl
  have b : putR_TE.bytes = 40:=by kernel_rfl
  have c : (n == 0) = false:=by simp; omega
  have d : (n == 1) = false:=by simp; omega
  unfold Lib.swapperK
  rw [c,d,a,b]
  rfl
theorem wpl_call {P : Program} {w : World} {a : Act} {ops : Array Oper} {rest : List Oper} {o : Oper} {Q : Exit → Act → World → Prop} (hg : o.guard = none) {f : FuncId} {args : Array Value} (hr : (execOp a.eval o).run P w = .ok (.enter f args) w) {G : Value → World → Prop} (hc : Calls P f args w fun e w'' => ∃ u, e = .returned u ∧ G u w'')
    (h : ∀ u w'',G u w'' → wpList P ops Q rest (a.put o.dst u) w'') : wpList P ops Q (o :: rest) a w :=
  wpList_plain hg fun K hK=>Nx.wp (G:=G) (by rw [hr]; exact hc) fun u w'' hu=>hK _ _ (h u w'' hu)
set_option maxHeartbeats 4000000 in
set_option maxRecDepth 100000 in
theorem putR_calls {m : Mem} {w : World} {bb b cap : Nat} {arr arr0 : Array Value} {T0 T : TypeId} {fz : Nat × Nat} {G H : List FileS} (hbb : w.heap[bb]? = some (.cells arr0 T0 (0, 0))) (h0 : arr0[0]? = some (.slice (some ⟨b, 0, none⟩) G.length cap)) (hb : w.heap[b]? = some (.cells arr T fz)) (hne : bb ≠ b) (hz : noFz arr.size fz)
    (he : ElsR m 2 (G.map fileV) arr) (hs : G.length * 2 ≤ arr.size) (hG1 : 1 ≤ G.length) (hG : G.length ≤ 12) (hH : H.Perm G) (hR : Rises H) :
    Calls Tryz.prog 84 #[.iface 25 (.slice (some ⟨b,0,none⟩) G.length cap),.func (.func 85) #[] #[.pointer (some ⟨bb,0,none⟩)]] w fun e w'=>∃ u,e = .returned u ∧ u = .tuple #[] ∧ ∃ A,Bel [b] w w' ∧ w'.heap[b]? = some (.cells A T fz) ∧ A.size = arr.size ∧ ElsR m 2 (H.map fileV) A:=by
  by_cases h2 : G.length ≤ 1
  · have hg1 : G.length = 1:=by omega
    have hHG : H = G:=by
      match G,hg1,hH with
      | [x],_,hH=>exact List.perm_singleton.1 hH
    have hK2 : Lib.swapperK G.length putR_TE 25 = 2:=by rw [hg1]; rfl
    refine (Any.sort_Slice_tiny Tryz.laysGg6 25 56 putR_T putR_TE (by kernel_rfl) (by kernel_rfl) (by kernel_rfl) (by kernel_rfl) 25 (fun _=>by kernel_rfl) (some ⟨b,0,none⟩) G.length cap h2 180 (by rw [hK2]; kernel_rfl) _ _ _ w).mono fun e w' h=>?_
    obtain ⟨rfl,os,rfl⟩:=h
    subst hHG
    refine ⟨_,rfl,rfl,arr,?_,?_,rfl,he⟩
    · exact ⟨rfl,rfl,rfl,by rw [Go.Sort.size_grow]; omega,fun k hk _=>Go.Sort.heap_grow_old _ _ hk⟩
    · rw [Go.Sort.heap_grow_old _ _ (lt_of_heap hb)]; exact hb
  have h2 : 2 ≤ G.length:=by omega
  have hblk:=lt_of_heap hb
  have hbbl:=lt_of_heap hbb
  have hHk:=holdsA (G:=G) hb hz he hs
  have hBs : w.cell? ⟨bb,0,none⟩ = some (.slice (some ⟨b,0,none⟩) G.length cap):=by simp [World.cell?,hbb,h0]
  have hless : LessReadsK Tryz.prog 85 #[.pointer (some ⟨bb,0,none⟩)] (encA arr G.length) 2 (ltA G) b 0 G.length w:=by
    intro mm os dk hds i j hi hj
    have e : sortWorldK (encA arr G.length) 2 w b 0 mm dk os = Go.Sort.putRowK (encA arr G.length) 2 (Go.Sort.grow (Go.Sort.ahead w mm) os) b 0 dk:=by
      unfold sortWorldK; rw [Go.Sort.putRowK_grow _ _ (Go.Sort.ahead w mm) _ b 0 _ hblk]
    have hHg : Go.Sort.HoldsK (encA arr G.length) 2 (Go.Sort.grow (Go.Sort.ahead w mm) os) b 0 (Array.range G.length):=Go.Sort.holdsK_grow _ _ _ _ b 0 _ hblk (Go.Sort.holdsK_ahead _ _ _ _ _ _ _ hHk)
    have hcell : ∀ t,t < G.length → (sortWorldK (encA arr G.length) 2 w b 0 mm dk os).cell? ⟨b,t * 2,none⟩ = some (.string ⟨(nameA G dk[t]!).toArray⟩):=fun t ht=>by
      have:=((Go.Sort.holdsK_putRowK _ _ _ b 0 (Array.range G.length) dk hHg (by simpa using hds)).cell (i:=t) (c:=0) (by omega) (by omega)).1
      rw [encA_str he,Nat.zero_add,Nat.add_zero] at this
      rw [e]
      exact this
    refine putR_less (bb:=bb) (b:=b) (cap:=cap) (n:=G.length) (x:=nameA G dk[i]!) (y:=nameA G dk[j]!) ?_ hi hj (hcell i hi) (hcell j hj)
    rw [e,Go.Sort.cell?_putRowK_other _ _ _ b 0 dk _ (by exact hne),Go.Sort.cell?_grow _ _ _ (by exact hbbl)]; exact hBs
  have hcall:=Any.sort_Slice_small_cells_sorted Tryz.laysGg6 25 56 putR_T putR_TE (by kernel_rfl) (by kernel_rfl) (by kernel_rfl) (by kernel_rfl) 25 (fun _=>by kernel_rfl) (encA arr G.length) 2 (encA_len arr G.length) (by kernel_rfl) (fun _=>by kernel_rfl)
    (encA_one he) (ltA G) (ltA_swo G) 85 #[.pointer (some ⟨bb,0,none⟩)]
    (enters_of Tryz.func85 (by kernel_rfl) rfl) b 0 cap (Array.range G.length) (by simpa using h2) (by simpa using hG) 187 (by rw [putR_K _ (by simpa using h2)]; kernel_rfl) false
    (fun args W=>run_callFunc_extern Tryz.func187 (by kernel_rfl) (by kernel_rfl) (by kernel_rfl) (e:=Extern.ReflectliteSwapper.swap false) (by kernel_rfl) args W) w (by simpa using hless) hHk hblk
  simp only [Array.size_range] at hcall
  refine hcall.mono fun e w' h=>?_
  obtain ⟨rfl,d',n,os,hp,hso,hw⟩:=h
  obtain ⟨k1,k2,k3⟩:=sortA_eq hp hso hH hR
  obtain ⟨g1,g2⟩:=sorted_worldA (n:=n) (os:=os) hb hw
  refine ⟨_,rfl,rfl,_,g1,g2,by simp [Go.Sort.putCells],?_⟩
  rw [← k3]
  exact els_putA he hs k1 k2
theorem putR_sort {G H : List FileS} (hG1 : 1 ≤ G.length) (hG : G.length ≤ 12) (hH : H.Perm G) (hR : Rises H) {id : Nat} {ops : Array Oper} {o1 o2 o3 o4 : Oper} {aT : Array TypeId} {W : VSlots → Rows → (VSlots → Rows → Prop) → Prop} (hops : ops.toList = [o1, o2, o3, o4])
    (h1 : o1.op = .load 25 (.tmp 8)) (e1 : o1.dst = some 41) (g1 : o1.guard = none)
    (h2 : o2.op = .makeInterface 25 (.tmp 41)) (e2 : o2.dst = some 42) (g2 : o2.guard = none)
    (h3 : o3.op = .makeFunc (.func 85) #[] #[.tmp 8]) (e3 : o3.dst = some 43) (g3 : o3.guard = none)
    (h4 : o4.op = .call { callee:=.value (.func 84),args:=#[.tmp 42,.tmp 43],argTypes:=aT }) (e4 : o4.dst = some 44) (g4 : o4.guard = none)
    {L : VSlots} {K : VSlots → Rows → Prop} (h8 : look L 8 = some (.ptr 0 0 0)) (n1 : look L 41 = none) (n2 : look L 42 = none) (n3 : look L 43 = none) (n4 : look L 44 = none) (hK : K L [.box [.own 1],.row 2 (H.map fileV)]) :
    Borrow Tryz.prog (.region id ops false) ops.toList W L [.box [.own 1],.row 2 (G.map fileV)] K:=by
  refine .sem fun w0 m0 mb qb n a w Q hds S hQ=>?_
  obtain ⟨⟨R,m,q,s1,s2,s3,s4⟩,s5,s6⟩:=S
  have C : Cf w0 m0 _ R m q w:=⟨s1,s2⟩
  rw [hops] at hds
  have hdn : 41 < n ∧ 42 < n ∧ 43 < n ∧ 44 < n:=by
    simp only [dstsL,e1,e2,e3,e4,Bool.and_eq_true,Nat.blt_eq] at hds
    exact ⟨hds.1,hds.2.1,hds.2.2.1,hds.2.2.2.1⟩
  obtain ⟨bb,arr0,T0,x1,x2,-,x3,x4⟩:=C.rok.row 0 _ rfl
  obtain ⟨u0,y1,y2,y3⟩:=x4 0 (.own 1) rfl
  obtain ⟨ob,cap,c1,c2,c3,c4,c5⟩:=C.rok.row 1 _ rfl
  rw [List.length_map] at c1 c2
  obtain ⟨b,rfl⟩ : ∃ b,ob = some b:=by
    cases ob with
    | some b=>exact ⟨b,rfl⟩
    | none=>have:=c4 rfl; omega
  obtain ⟨arr,T,fz,a1,a2,a3,a4⟩:=c5 b rfl
  have hu0 : u0 = .slice (some ⟨b,0,none⟩) G.length cap:=by
    cases y3 with | own h=>rw [c1] at h; cases h; rfl
  subst hu0
  have hbb:=(C.sit.own _ _ x2).2.1
  have hbh:=(C.sit.own _ _ a1).2.1
  have hne : bb ≠ b:=fun e=>by
    subst e
    have:=C.rok.apart 0 1 _ _ bb rfl rfl rfl rfl (occ_one rfl x1) (occ_one rfl c1)
    omega
  have v8 : a.tmps.getD 8 undef = .pointer (some ⟨bb,0,none⟩):=by
    have:=s3 8 _ h8
    generalize a.tmps.getD 8 undef = u at this
    cases this with | ptr h=>rw [x1] at h; cases h; rfl
  have hload : ∀ a' : Act,a'.tmps.getD 8 undef = .pointer (some ⟨bb,0,none⟩) → (execOp a'.eval o1).run Tryz.prog w = .ok (.value (.slice (some ⟨b,0,none⟩) G.length cap)) w:=fun a' ha=>by
    have f8 : a'.eval (.tmp 8) = .pointer (some ⟨bb,0,none⟩):=ha
    have hag:=Tryz.isAgg25
    have hcell : w.cell? ⟨bb,0,none⟩ = some (.slice (some ⟨b,0,none⟩) G.length cap):=by simp [World.cell?,hbb,y1]
    simp [execOp,h1,f8,Instr.loadAt,Instr.sureAddr,loadVar,hag,hcell,run_underlying Tryz.underlying25]
  refine wp_region_list ?_
  rw [hops]
  refine wpl_val g1 (v:=.slice (some ⟨b,0,none⟩) G.length cap) (w':=w) (hload a v8) ?_
  generalize hA : a.put o1.dst (.slice (some ⟨b,0,none⟩) G.length cap) = A
  have vA : A.tmps.getD 41 undef = .slice (some ⟨b,0,none⟩) G.length cap:=by rw [← hA,e1,put_eq (by rw [s5]; exact hdn.1)]
  have vA8 : A.tmps.getD 8 undef = .pointer (some ⟨bb,0,none⟩):=by rw [← hA,e1,put_ne (by decide)]; exact v8
  have vAs : A.tmps.size = n:=by rw [← hA,put_size]; exact s5
  refine wpl_val g2 (v:=.iface 25 (.slice (some ⟨b,0,none⟩) G.length cap)) (w':=w) ?_ ?_
  · have f : A.eval (.tmp 41) = .slice (some ⟨b,0,none⟩) G.length cap:=vA
    simp [execOp,h2,f,Instr.makeInterface,run_underlying Tryz.underlying25]
  generalize hB : A.put o2.dst (.iface 25 (.slice (some ⟨b,0,none⟩) G.length cap)) = B
  have vB : B.tmps.getD 42 undef = .iface 25 (.slice (some ⟨b,0,none⟩) G.length cap):=by rw [← hB,e2,put_eq (by rw [vAs]; exact hdn.2.1)]
  have vB8 : B.tmps.getD 8 undef = .pointer (some ⟨bb,0,none⟩):=by rw [← hB,e2,put_ne (by decide)]; exact vA8
  have vBs : B.tmps.size = n:=by rw [← hB,put_size]; exact vAs
  refine wpl_val g3 (v:=.func (.func 85) #[] #[.pointer (some ⟨bb,0,none⟩)]) (w':=w) ?_ ?_
  · have f : B.eval (.tmp 8) = .pointer (some ⟨bb,0,none⟩):=vB8
    simp [execOp,h3,f,Instr.makeFunc]
  generalize hD : B.put o3.dst (.func (.func 85) #[] #[.pointer (some ⟨bb,0,none⟩)]) = D
  have vD : D.tmps.getD 43 undef = .func (.func 85) #[] #[.pointer (some ⟨bb,0,none⟩)]:=by rw [← hD,e3,put_eq (by rw [vBs]; exact hdn.2.2.1)]
  have vD2 : D.tmps.getD 42 undef = .iface 25 (.slice (some ⟨b,0,none⟩) G.length cap):=by rw [← hD,e3,put_ne (by decide)]; exact vB
  have vDs : D.tmps.size = n:=by rw [← hD,put_size]; exact vBs
  have e84 : ∀ args w,(callFunc 84 args).run Tryz.prog w = .ok (.enter 84 args) w:=enters_of Tryz.func84 (by kernel_rfl) rfl
  refine wpl_call g4 (f:=84) (args:=#[.iface 25 (.slice (some ⟨b,0,none⟩) G.length cap),.func (.func 85) #[] #[.pointer (some ⟨bb,0,none⟩)]]) ?_ (putR_calls (m:=m) (H:=H) hbb y1 hbh hne a4.1 a3 (by rw [a2]; omega) hG1 hG hH hR) ?_
  · have k1 : D.eval (.tmp 42) = .iface 25 (.slice (some ⟨b,0,none⟩) G.length cap):=vD2
    have k2 : D.eval (.tmp 43) = .func (.func 85) #[] #[.pointer (some ⟨bb,0,none⟩)]:=vD
    have k3 : D.eval (.func 84) = .func (.func 84) #[] #[]:=rfl
    simp [execOp,h4,resolve,Deferred.ofValue,invoke,k1,k2,k3,e84]
  rintro u w2 ⟨rfl,A',hbel,hh,hsz,hels⟩
  have hlH : H.length = G.length:=hH.length_eq
  have C2:=C.store (r:=1) (x:=.row 2 (G.map fileV)) (y:=.row 2 (H.map fileV)) rfl rfl c1 a1 hbel hh ⟨some b,cap,by rw [List.length_map,hlH]; exact c1,by rw [List.length_map,hlH]; exact c2,c3,(fun h=>by cases h),fun b' hb'=>by
    cases hb'
    exact ⟨A',T,fz,by simp [Mem.put],by rw [hsz]; exact a2,hels,by rw [hsz]; exact a4⟩⟩
  refine hQ L _ _ w2 hK ⟨⟨_,m,q,C2.sit,C2.rok,fun t v ht=>?_,s4⟩,?_,?_⟩
  · have t1 : 41 ≠ t:=fun h=>by rw [← h,n1] at ht; cases ht
    have t2 : 42 ≠ t:=fun h=>by rw [← h,n2] at ht; cases ht
    have t3 : 43 ≠ t:=fun h=>by rw [← h,n3] at ht; cases ht
    have t4 : 44 ≠ t:=fun h=>by rw [← h,n4] at ht; cases ht
    rw [e4,put_ne t4,← hD,e3,put_ne t3,← hB,e2,put_ne t2,← hA,e1,put_ne t1]
    exact s3 t v ht
  · rw [put_size,vDs]
  · rw [put_defers,← hD,put_defers,← hB,put_defers,← hA,put_defers]; exact s6
theorem putR_ca : callable Tryz.prog 34 = true:=by kernel_rfl
def putR_S : Spec:=fun args K=>∃ (F : List FileS) (n b : Bs),args = [.sl fileV F,.str n,.sl byteV b] ∧ checkFiles F = 0 ∧ K (.tup [.sl fileV (putS F n b).1,.int .i64 (putS F n b).2])
noncomputable def putR_lib : List (Nat × Spec):=[(82,isWordR_S)]
noncomputable def putR_fns : List (Nat × FnI):=[]
noncomputable def putR_prims : List (Nat × PSpec):=[]
theorem putR_E : EnvOK ⟨Tryz.prog,tys,putR_lib,putR_fns,putR_prims,[]⟩:=env_ok mixed0 tys0 (.cons isWordR_ca isWordR_ok .nil) .nil .nil rfl
set_option maxHeartbeats 16000000 in
theorem putR_ok : Pure Tryz.prog 34 putR_S:=by
  refine pure_by putR_E 6 (fi:={fn:=Tryz.f34,hooks:=[15,100015],draws:=[]}) ⟨Tryz.func34,by kernel_rfl,by kernel_rfl⟩ ?_
  rintro _ K ⟨F,n,b,rfl,hF,hK⟩
  replace hK : ∀ r,r = .tup [.sl fileV (putS F n b).1,.int .i64 (putS F n b).2] → K r:=fun r h=>h ▸ hK
  obtain ⟨f1,f2,f3⟩:=files_iff.1 hF
  refine ⟨n,rfl,?_⟩
  repeat' first | (refine fun (b : Bool) hb=>?_; cases b <;> (first | exact absurd hb (by decide) | exact Bool.noConfusion (show true = false from hb) | exact Bool.noConfusion (show false = true from hb) | skip)) | (refine fun (hl : _ ≤ MAXL)=>?_) | fail
  rotate_left
  · have h2 : 4000 < b.length := by
      have h:=of_decide_eq_true (by assumption : decide (4000 < (b.length : Int)) = true)
      omega
    have h1 : isWord n = true:=by simpa using ‹(!isWord n) = false›
    conv=>whnf
    skip
    refine ⟨FileS,fileV,?_⟩
    refine hK _ ?_
    unfold putS
    rw [if_neg (fun h=>h hF),if_neg (by rw [h1]; decide),if_pos h2]
  · have h1 : isWord n = false:=by simpa using ‹(!isWord n) = true›
    conv=>whnf
    skip
    refine ⟨FileS,fileV,?_⟩
    refine hK _ ?_
    unfold putS
    rw [if_neg (fun h=>h hF),if_pos h1]
  have h1 : isWord n = true:=by simpa using ‹(!isWord n) = false›
  have h2 : ¬ 4000 < b.length:=by
    have h:=of_decide_eq_false (by assumption : decide (4000 < (b.length : Int)) = false)
    omega
  conv=>whnf
  skip
  conv=>whnf
  refine loop_live [1,2,8,17,18] (σ:=Nat) (fun i=>[(19,.int .i64 i)]) (fun i=>[.box [.own 1],.row 2 ((outN n (F.take i)).map fileV)]) (fun i=>i ≤ F.length) (fun i=>F.length - i) 0 ?_
  conv=>whnf
  refine ⟨(by (refine wk_sel [some 0,none] rfl rfl ?_ ?_ <;> (repeat' (first | exact True.intro | exact rfl | exact Or.inl rfl | exact Or.inr rfl | refine And.intro ?_ ?_ | fail)))),Nat.zero_le _,fun i hi=>?_⟩
  repeat' first | (refine fun (b : Bool) hb=>?_; cases b <;> (first | exact absurd hb (by decide) | exact Bool.noConfusion (show true = false from hb) | exact Bool.noConfusion (show false = true from hb) | skip)) | refine And.intro (a:=I64 _) ?_ ?_ | refine And.intro (a:=_ ≤ 140737488355328) ?_ ?_ | refine ⟨_,rfl,?_,rfl,?_⟩ | refine ⟨rfl,?_⟩ | fail
  · show (((outN n (F.take i)).map fileV).length + 1) * 40 ≤ 140737488355328
    have:=outN_le n F i
    rw [List.length_map]; omega
  · have hge:=of_decide_eq_false (by assumption : decide ((i : Int) < (F.length : Int)) = false)
    have hie : i = F.length:=by omega
    subst hie
    rw [List.take_length]
    have hlen:=put_len2 (n:=n) (b:=b) f3
    have hpm:=put_perm2 (n:=n) (b:=b) f3
    have hmap : (outN n F).map fileV ++ [V.agg [V.str n,V.sl byteV b]] = (outN n F ++ [(⟨n,b⟩ : FileS)]).map fileV:=by rw [List.map_append]; rfl
    have hgo:=rises_put (n:=n) (b:=b) f3
    have hpos : 1 ≤ (outN n F ++ [(⟨n,b⟩ : FileS)]).length:=by simp
    have hput : 12 < (outN n F ++ [(⟨n,b⟩ : FileS)]).length → putS F n b = ([],2):=fun h=>by
      rw [hlen] at h
      unfold putS
      rw [if_neg (fun h=>h hF),if_neg (by rw [h1]; decide),if_neg h2,if_pos]
      split at h
      · omega
      · rename_i h3
        exact ⟨by simpa using h3,by omega⟩
    have hput2 : ¬ 12 < (outN n F ++ [(⟨n,b⟩ : FileS)]).length → putS F n b = (putGo F n b,0):=fun h=>by
      rw [hlen] at h
      unfold putS
      rw [if_neg (fun h=>h hF),if_neg (by rw [h1]; decide),if_neg h2,if_neg]
      rintro ⟨h3,h4⟩
      rw [if_neg (by rw [h3]; decide)] at h
      omega
    generalize outN n F ++ [(⟨n,b⟩ : FileS)] = H at hlen hpm hmap hpos hput hput2
    conv=>whnf
    refine join_live [8] (σ:=Unit) (fun _=>[(8,.ptr 0 0 0)]) (fun _=>[.box [.own 1],.row 2 (H.map fileV)]) (fun _=>¬ 12 < H.length) ?_
    conv=>whnf
    refine ⟨?_,fun _ h12=>?_⟩
    · conv=>whnf
      repeat' first | (refine fun (b : Bool) hb=>?_; cases b <;> (first | exact absurd hb (by decide) | exact Bool.noConfusion (show true = false from hb) | exact Bool.noConfusion (show false = true from hb) | skip)) | (refine fun (hl : _ ≤ MAXL)=>?_) | fail
      · have h:=of_decide_eq_false (by assumption : decide ((12 : Int) < (((outN n F).map fileV ++ [V.agg [V.str n,V.sl byteV b]]).length : Int)) = false)
        rw [hmap,List.length_map] at h
        conv=>whnf
        skip
        refine ⟨(),?_,by omega⟩
        rw [hmap]
        exact (by (refine wk_auto ?_; refine Sel4.mk rfl rfl ?_ ?_ <;> (repeat' (first | exact True.intro | exact rfl | exact Or.inl rfl | exact Or.inr rfl | refine And.intro ?_ ?_ | fail))))
      · have h:=of_decide_eq_true (by assumption : decide ((12 : Int) < (((outN n F).map fileV ++ [V.agg [V.str n,V.sl byteV b]]).length : Int)) = true)
        rw [hmap,List.length_map] at h
        conv=>whnf
        skip
        refine ⟨FileS,fileV,?_⟩
        refine hK _ ?_
        rw [hput (by omega)]
    have hput:=hput2 h12
    conv=>whnf
    refine putR_sort hpos (by omega) hpm hgo rfl rfl rfl rfl rfl rfl rfl rfl rfl rfl rfl rfl rfl rfl rfl rfl rfl rfl ?_
    conv=>whnf
    repeat' first | refine ⟨_,_,_,LeL.refl _,?_⟩ | fail
    conv=>whnf
    refine hK _ ?_
    rw [hput]
  · have h:=of_decide_eq_true (by assumption : decide ((i : Int) < (F.length : Int)) = true)
    omega
  · unfold I64; omega
  · have hlt : i < F.length := by
      have h:=of_decide_eq_true (by assumption : decide ((i : Int) < (F.length : Int)) = true)
      omega
    have hn : F[i].name = n:=by simpa using ‹(!decide (F[i].name = n)) = false›
    conv=>whnf
    skip
    refine ⟨i + 1,?_,hlt,by omega⟩
    rw [outN_take hlt,if_pos hn]
    exact (by (refine wk_auto ?_; refine Sel4.mk rfl rfl ?_ ?_ <;> (repeat' (first | exact True.intro | exact rfl | exact Or.inl rfl | exact Or.inr rfl | refine And.intro ?_ ?_ | fail))))
  · show (((outN n (F.take i)).map fileV).length + 1) * 40 ≤ 140737488355328
    have:=outN_le n F i
    rw [List.length_map]; omega
  · unfold I64; omega
  · have hlt : i < F.length := by
      have h:=of_decide_eq_true (by assumption : decide ((i : Int) < (F.length : Int)) = true)
      omega
    have hn : ¬ F[i].name = n:=by simpa using ‹(!decide (F[i].name = n)) = true›
    conv=>whnf
    skip
    refine ⟨i + 1,?_,hlt,by omega⟩
    rw [outN_take hlt,if_neg hn,List.map_append]
    exact (by (refine wk_auto ?_; refine Sel4.mk rfl rfl ?_ ?_ <;> (repeat' (first | exact True.intro | exact rfl | exact Or.inl rfl | exact Or.inr rfl | refine And.intro ?_ ?_ | fail))))
end Gv
namespace Gv
variable [Glob] [Laid]
theorem fileOfR_ca : callable Tryz.prog 35 = true:=by kernel_rfl
def fileOfR_S : Spec:=fun args K=>∃ (F : List FileS) (n : Bs),args = [.sl fileV F,.str n] ∧ K (.sl byteV (getN F n))
noncomputable def fileOfR_lib : List (Nat × Spec):=[]
noncomputable def fileOfR_fns : List (Nat × FnI):=[]
noncomputable def fileOfR_prims : List (Nat × PSpec):=[]
theorem fileOfR_E : EnvOK ⟨Tryz.prog,tys,fileOfR_lib,fileOfR_fns,fileOfR_prims,[]⟩:=env_ok mixed0 tys0 .nil .nil .nil rfl
set_option maxHeartbeats 4000000 in
theorem fileOfR_ok : Pure Tryz.prog 35 fileOfR_S:=by
  refine pure_by fileOfR_E 6 (fi:={fn:=Tryz.f35,hooks:=[],draws:=[]}) ⟨Tryz.func35,by kernel_rfl,by kernel_rfl⟩ ?_
  rintro _ K ⟨F,n,rfl,hK⟩
  replace hK : ∀ r,r = .sl byteV (getN F n) → K r:=fun r h=>h ▸ hK
  repeat' first | (refine fun (hl : _ ≤ MAXL)=>?_) | fail
  conv=>whnf
  refine loop_live [1,7,8] (σ:=Nat) (fun i=>[(9,.int .i64 i)]) (fun _=>[]) (fun i=>i ≤ F.length ∧ getN (F.drop i) n = getN F n) (fun i=>F.length - i) 0 ?_
  conv=>whnf
  refine ⟨(by (refine wk_auto ?_; refine Sel4.mk rfl rfl ?_ ?_ <;> (repeat' (first | exact True.intro | exact rfl | exact Or.inl rfl | exact Or.inr rfl | refine And.intro ?_ ?_ | fail)))),⟨Nat.zero_le _,rfl⟩,fun i hi=>?_⟩
  obtain ⟨hi,hg⟩:=hi
  repeat' first | (refine fun (b : Bool) hb=>?_; cases b <;> (first | exact absurd hb (by decide) | exact Bool.noConfusion (show true = false from hb) | exact Bool.noConfusion (show false = true from hb) | skip)) | refine And.intro (a:=I64 _) ?_ ?_ | refine ⟨_,rfl,?_,rfl,?_⟩ | fail
  · have hge : ¬ (i : Int) < (F.length : Int):=of_decide_eq_false (by assumption)
    have e : F.drop i = []:=List.drop_eq_nil_of_le (by omega)
    rw [e] at hg
    conv=>whnf
    skip
    refine ⟨UInt8,byteV,?_⟩
    refine hK _ ?_
    rw [← hg]
    rfl
  · have h:=of_decide_eq_true (by assumption : decide ((i : Int) < (F.length : Int)) = true)
    show i < F.length
    omega
  · have hm : F.length ≤ MAXL:=by assumption
    unfold MAXL at hm
    have h:=of_decide_eq_true (by assumption : decide ((i : Int) < (F.length : Int)) = true)
    unfold I64; omega
  all_goals
    have hlt : i < F.length:=by
      have h:=of_decide_eq_true (by assumption : decide ((i : Int) < (F.length : Int)) = true)
      omega
    rw [List.drop_eq_getElem_cons hlt] at hg
    unfold getN at hg
    rw [List.find?_cons] at hg
  · have hn : ¬ F[i].name = n:=of_decide_eq_false (by assumption)
    rw [decide_eq_false hn] at hg
    conv=>whnf
    skip
    exact ⟨i + 1,(by (refine wk_auto ?_; refine Sel4.mk rfl rfl ?_ ?_ <;> (repeat' (first | exact True.intro | exact rfl | exact Or.inl rfl | exact Or.inr rfl | refine And.intro ?_ ?_ | fail)))),⟨hlt,hg⟩,by omega⟩
  · have hn : F[i].name = n:=of_decide_eq_true (by assumption)
    rw [decide_eq_true hn] at hg
    conv=>whnf
    skip
    refine hK _ ?_
    show _ = V.sl byteV ((Option.map (·.b) (F.find? fun f=>decide (f.name = n))).getD [])
    rw [← hg]
    rfl
end Gv
namespace Gv
variable [Glob] [Laid]
def usesTab : List (List Int × Bs):=[([1],[119]),([2],[119]),([3],[119]),([4],[110]),([5],[45]),([6],[45]),([7],[45]),([8],[45]),([9],[110]),([10],[110])]
theorem uses_cases (c : Cmd) : (mget [] usesTab [c.kind] = [] ∧ (c.kind < 1 ∨ 10 < c.kind)) ∨ (mget [] usesTab [c.kind] = [119] ∧ (1 ≤ c.kind ∧ c.kind ≤ 10) ∧ useWord c = true ∧ useN c = false) ∨ (mget [] usesTab [c.kind] = [110] ∧ (1 ≤ c.kind ∧ c.kind ≤ 10) ∧ useWord c = false ∧ useN c = true ∧ c.kind ≠ 3) ∨ (mget [] usesTab [c.kind] = [45] ∧ (1 ≤ c.kind ∧ c.kind ≤ 10) ∧ useWord c = false ∧ useN c = false ∧ c.kind ≠ 3):=by
  unfold useWord useN
  generalize c.kind = k
  by_cases h : 1 ≤ k ∧ k ≤ 10
  · have h2 : k = 1 ∨ k = 2 ∨ k = 3 ∨ k = 4 ∨ k = 5 ∨ k = 6 ∨ k = 7 ∨ k = 8 ∨ k = 9 ∨ k = 10:=by omega
    rcases h2 with rfl | rfl | rfl | rfl | rfl | rfl | rfl | rfl | rfl | rfl <;> decide
  · left
    refine ⟨?_,by omega⟩
    have e : ∀ j : Int,1 ≤ j → j ≤ 10 → ¬ [j] = [k]:=fun j h1 h2 e=>by
      simp only [List.cons.injEq,and_true] at e
      omega
    unfold usesTab
    simp only [mget,e 1 (by omega) (by omega),e 2 (by omega) (by omega),e 3 (by omega) (by omega),e 4 (by omega) (by omega),e 5 (by omega) (by omega),e 6 (by omega) (by omega),e 7 (by omega) (by omega),e 8 (by omega) (by omega),e 9 (by omega) (by omega),e 10 (by omega) (by omega),if_false]
theorem ccmdR_ca : callable Tryz.prog 106 = true:=by kernel_rfl
def ccmdR_S : Spec:=fun args K=>∃ (c : Cmd),args = [cmdV c] ∧ K (.int .i64 (checkCmd c))
noncomputable def ccmdR_lib : List (Nat × Spec):=[(82,isWordR_S)]
noncomputable def ccmdR_fns : List (Nat × FnI):=[]
noncomputable def ccmdR_prims : List (Nat × PSpec):=[]
theorem ccmdR_E : EnvOK ⟨Tryz.prog,tys,ccmdR_lib,ccmdR_fns,ccmdR_prims,[]⟩:=env_ok mixed0 tys0 (.cons isWordR_ca isWordR_ok .nil) .nil .nil rfl
set_option maxHeartbeats 4000000 in
theorem ccmdR_ok : Pure Tryz.prog 106 ccmdR_S:=by
  refine pure_by ccmdR_E 6 (fi:={fn:=Tryz.f106,hooks:=[2],draws:=[]}) ⟨Tryz.func106,by kernel_rfl,by kernel_rfl⟩ ?_
  rintro _ K ⟨c,rfl,hK⟩
  replace hK : ∀ r,r = .int .i64 (checkCmd c) → K r:=fun r h=>h ▸ hK
  have hu:=uses_cases c
  skip
  conv=>whnf
  refine join_live [1] (σ:=Bs) (fun u=>[(3,.str u)]) (fun _=>[.box [.int .i64 c.kind,.str c.word,.int .i64 c.n]]) (fun u=>u = mget [] usesTab [c.kind]) ?_
  conv=>whnf
  refine ⟨?_,fun u hu1=>?_⟩
  · repeat' first | refine ⟨_,rfl,?_,rfl,?_⟩ | refine ⟨Bs,strV,?_⟩ | fail
    all_goals try rfl
    refine ⟨[],rfl,?_⟩
    skip
    exact ⟨_,(by (refine wk_auto ?_; refine Sel4.mk rfl rfl ?_ ?_ <;> (repeat' (first | exact True.intro | exact rfl | exact Or.inl rfl | exact Or.inr rfl | refine And.intro ?_ ?_ | fail)))),rfl⟩
  rw [← hu1] at hu
  clear hu1
  unfold checkCmd at hK
  rcases hu with ⟨rfl,h1⟩ | ⟨rfl,h1,h2,h3⟩ | ⟨rfl,h1,h2,h3,h4⟩ | ⟨rfl,h1,h2,h3,h4⟩
  · repeat' first | (refine fun (b : Bool) hb=>?_; cases b <;> (first | exact absurd hb (by decide) | exact Bool.noConfusion (show true = false from hb) | exact Bool.noConfusion (show false = true from hb) | skip)) | fail
    refine hK _ ?_
    rw [if_pos h1]
  all_goals
    have h1' : ¬ (c.kind < 1 ∨ 10 < c.kind):=by omega
  · simp only [h1',h2,h3,if_false] at hK
    repeat' first | (refine fun (b : Bool) hb=>?_; cases b <;> (first | exact absurd hb (by decide) | exact Bool.noConfusion (show true = false from hb) | exact Bool.noConfusion (show false = true from hb) | skip)) | fail
    · refine ⟨c.word,rfl,?_⟩
      repeat' first | (refine fun (b : Bool) hb=>?_; cases b <;> (first | exact absurd hb (by decide) | exact Bool.noConfusion (show true = false from hb) | exact Bool.noConfusion (show false = true from hb) | skip)) | (refine fun (hl : _ ≤ MAXL)=>?_) | fail
      all_goals (refine hK _ ?_; simp_all; try omega)
    · refine hK _ ?_
      simp_all
  · simp only [h1',h2,h3,if_false] at hK
    repeat' first | (refine fun (b : Bool) hb=>?_; cases b <;> (first | exact absurd hb (by decide) | exact Bool.noConfusion (show true = false from hb) | exact Bool.noConfusion (show false = true from hb) | skip)) | fail
    all_goals (refine hK _ ?_; simp_all; try omega)
  · simp only [h1',h2,h3,if_false] at hK
    repeat' first | (refine fun (b : Bool) hb=>?_; cases b <;> (first | exact absurd hb (by decide) | exact Bool.noConfusion (show true = false from hb) | exact Bool.noConfusion (show false = true from hb) | skip)) | fail
    all_goals (refine hK _ ?_; simp_all; done)
end Gv
namespace Gv
variable [Glob] [Laid]
theorem clineR_ca : callable Tryz.prog 86 = true:=by kernel_rfl
def clineR_S : Spec:=fun args K=>∃ (l : LineS),args = [lineV l] ∧ K (.int .i64 (checkLine l))
noncomputable def clineR_lib : List (Nat × Spec):=[(82,isWordR_S),(106,ccmdR_S)]
noncomputable def clineR_fns : List (Nat × FnI):=[]
noncomputable def clineR_prims : List (Nat × PSpec):=[]
theorem clineR_E : EnvOK ⟨Tryz.prog,tys,clineR_lib,clineR_fns,clineR_prims,[]⟩:=env_ok mixed0 tys0 (.cons isWordR_ca isWordR_ok (.cons ccmdR_ca ccmdR_ok .nil)) .nil .nil rfl
set_option maxHeartbeats 4000000 in
theorem clineR_ok : Pure Tryz.prog 86 clineR_S:=by
  refine pure_by clineR_E 6 (fi:={fn:=Tryz.f86,hooks:=[],draws:=[]}) ⟨Tryz.func86,by kernel_rfl,by kernel_rfl⟩ ?_
  rintro _ K ⟨l,rfl,hK⟩
  replace hK : ∀ r,r = .int .i64 (checkLine l) → K r:=fun r h=>h ▸ hK
  obtain ⟨f,c,t⟩:=l
  unfold checkLine at hK
  dsimp only at hK
  repeat' first | (refine fun (b : Bool) hb=>?_; cases b <;> (first | exact absurd hb (by decide) | exact Bool.noConfusion (show true = false from hb) | exact Bool.noConfusion (show false = true from hb) | skip)) | (refine fun (hl : _ ≤ MAXL)=>?_) | fail
  rotate_left
  · refine hK _ ?_
    rw [if_pos (by grind)]
  · refine hK _ ?_
    rw [if_pos (by grind)]
  · refine hK _ ?_
    rw [if_pos (by grind)]
  have h1 : ¬ (f.length = 0 ∨ 4 < f.length ∨ 6 < c.length):=by grind
  rw [if_neg h1] at hK
  conv=>whnf
  refine loop_live [1,25,26] (σ:=Nat) (fun i=>[(27,.int .i64 i)]) (fun _=>[.box [.sl strV f,.sl cmdV c,.str t]]) (fun i=>i ≤ f.length ∧ (f.take i).all isWord = true) (fun i=>f.length - i) 0 ?_
  conv=>whnf
  refine ⟨(by (refine wk_auto ?_; refine Sel4.mk rfl rfl ?_ ?_ <;> (repeat' (first | exact True.intro | exact rfl | exact Or.inl rfl | exact Or.inr rfl | refine And.intro ?_ ?_ | fail)))),⟨Nat.zero_le _,rfl⟩,fun i hi=>?_⟩
  obtain ⟨hi,hI⟩:=hi
  repeat' first | (refine fun (b : Bool) hb=>?_; cases b <;> (first | exact absurd hb (by decide) | exact Bool.noConfusion (show true = false from hb) | exact Bool.noConfusion (show false = true from hb) | skip)) | refine ⟨_,rfl,?_,rfl,?_⟩ | fail
  · have e : f.take i = f:=List.take_of_length_le (by grind)
    rw [e] at hI
    refine ⟨t,rfl,?_⟩
    rw [List.all_append,hI] at hK
    simp only [List.all_cons,List.all_nil,Bool.and_true,Bool.true_and] at hK
    generalize isWord t = wt at hK ⊢
    repeat' first | (refine fun (b : Bool) hb=>?_; cases b <;> (first | exact absurd hb (by decide) | exact Bool.noConfusion (show true = false from hb) | exact Bool.noConfusion (show false = true from hb) | skip)) | (refine fun (hl : _ ≤ MAXL)=>?_) | fail
    rotate_left
    · refine hK _ ?_
      rw [if_pos (by grind)]
    have hwt : ¬ wt = false:=by grind
    rw [if_neg hwt] at hK
    conv=>whnf
    refine loop_live [40,41] (σ:=Nat) (fun i=>[(42,.int .i64 i)]) (fun _=>[.box [.sl strV f,.sl cmdV c,.str t]]) (fun i=>i ≤ c.length ∧ firstBad (c.drop i) = firstBad c) (fun i=>c.length - i) 0 ?_
    conv=>whnf
    refine ⟨(by (refine wk_auto ?_; refine Sel4.mk rfl rfl ?_ ?_ <;> (repeat' (first | exact True.intro | exact rfl | exact Or.inl rfl | exact Or.inr rfl | refine And.intro ?_ ?_ | fail)))),⟨Nat.zero_le _,rfl⟩,fun i hi=>?_⟩
    obtain ⟨hi,hJ⟩:=hi
    repeat' first | (refine fun (b : Bool) hb=>?_; cases b <;> (first | exact absurd hb (by decide) | exact Bool.noConfusion (show true = false from hb) | exact Bool.noConfusion (show false = true from hb) | skip)) | refine ⟨_,rfl,?_,rfl,?_⟩ | fail
    · refine hK _ ?_
      have e : c.drop i = []:=List.drop_eq_nil_of_le (by grind)
      rw [e] at hJ
      rw [← hJ]
      rfl
    · grind
    · have hi2 : i < c.length:=by grind
      have hd : c.drop i = c[i] :: c.drop (i + 1):=List.drop_eq_getElem_cons hi2
      rw [hd] at hJ
      refine ⟨c[i],rfl,?_⟩
      have hb0 : firstBad (c[i] :: c.drop (i + 1)) = if checkCmd c[i] = 0 then firstBad (c.drop (i + 1)) else checkCmd c[i]:=rfl
      generalize checkCmd c[i] = e at hb0 ⊢
      repeat' first | (refine fun (b : Bool) hb=>?_; cases b <;> (first | exact absurd hb (by decide) | exact Bool.noConfusion (show true = false from hb) | exact Bool.noConfusion (show false = true from hb) | skip)) | refine And.intro (a:=I64 _) ?_ ?_ | fail
      · (first | omega | (unfold I64; omega) | (simp only [List.length_append,List.length_map,List.length_cons,List.length_nil,Nat.mul_one,Int.ofNat_eq_natCast] at *; omega) | (dsimp only at *; omega) | (unfold I64; dsimp only at *; omega) | (unfold I64; grind) | grind)
      · refine ⟨i + 1,(by (refine wk_auto ?_; refine Sel4.mk rfl rfl ?_ ?_ <;> (repeat' (first | exact True.intro | exact rfl | exact Or.inl rfl | exact Or.inr rfl | refine And.intro ?_ ?_ | fail)))),⟨by omega,?_⟩,by omega⟩
        rw [← hJ,hb0,if_pos (by grind)]
      · refine hK _ ?_
        have he : ¬ e = 0:=by grind
        rw [← hJ,hb0]
        simp [he]
  · grind
  have hi2 : i < f.length:=by grind
  refine ⟨f[i],rfl,?_⟩
  have hts : f.take (i + 1) = f.take i ++ [f[i]]:=List.take_succ_eq_append_getElem hi2
  repeat' first | (refine fun (b : Bool) hb=>?_; cases b <;> (first | exact absurd hb (by decide) | exact Bool.noConfusion (show true = false from hb) | exact Bool.noConfusion (show false = true from hb) | skip)) | refine And.intro (a:=I64 _) ?_ ?_ | fail
  · (first | omega | (unfold I64; omega) | (simp only [List.length_append,List.length_map,List.length_cons,List.length_nil,Nat.mul_one,Int.ofNat_eq_natCast] at *; omega) | (dsimp only at *; omega) | (unfold I64; dsimp only at *; omega) | (unfold I64; grind) | grind)
  · refine ⟨i + 1,(by (refine wk_auto ?_; refine Sel4.mk rfl rfl ?_ ?_ <;> (repeat' (first | exact True.intro | exact rfl | exact Or.inl rfl | exact Or.inr rfl | refine And.intro ?_ ?_ | fail)))),⟨by omega,?_⟩,by omega⟩
    rw [hts,List.all_append,hI]
    grind
  · refine hK _ ?_
    have h1 : (f ++ [t]).all isWord = false:=by
      rw [List.all_eq_false]
      exact ⟨f[i],List.mem_append_left _ (List.getElem_mem hi2),by grind⟩
    rw [if_pos h1]
end Gv
namespace Gv
variable [Glob] [Laid]
theorem checkSR_ca : callable Tryz.prog 36 = true:=by kernel_rfl
def checkSR_S : Spec:=fun args K=>∃ (l : List LineS),args = [.sl lineV l] ∧ K (.int .i64 (checkS l))
noncomputable def checkSR_lib : List (Nat × Spec):=[(86,clineR_S)]
noncomputable def checkSR_fns : List (Nat × FnI):=[]
noncomputable def checkSR_prims : List (Nat × PSpec):=[]
theorem checkSR_E : EnvOK ⟨Tryz.prog,tys,checkSR_lib,checkSR_fns,checkSR_prims,[]⟩:=env_ok mixed0 tys0 (.cons clineR_ca clineR_ok .nil) .nil .nil rfl
set_option maxHeartbeats 4000000 in
theorem checkSR_ok : Pure Tryz.prog 36 checkSR_S:=by
  refine pure_by checkSR_E 6 (fi:={fn:=Tryz.f36,hooks:=[],draws:=[]}) ⟨Tryz.func36,by kernel_rfl,by kernel_rfl⟩ ?_
  rintro _ K ⟨l,rfl,hK⟩
  replace hK : ∀ r,r = .int .i64 (checkS l) → K r:=fun r h=>h ▸ hK
  unfold checkS at hK
  repeat' first | (refine fun (b : Bool) hb=>?_; cases b <;> (first | exact absurd hb (by decide) | exact Bool.noConfusion (show true = false from hb) | exact Bool.noConfusion (show false = true from hb) | skip)) | (refine fun (hl : _ ≤ MAXL)=>?_) | fail
  rotate_left
  · refine hK _ ?_
    rw [if_pos (by grind)]
  have h6 : ¬ 6 < l.length:=by grind
  rw [if_neg h6] at hK
  conv=>whnf
  refine loop_live [9,10] (σ:=Nat) (fun i=>[(11,.int .i64 i)]) (fun _=>[]) (fun i=>i ≤ l.length ∧ linesBad (l.drop i) = linesBad l) (fun i=>l.length - i) 0 ?_
  conv=>whnf
  refine ⟨(by (refine wk_auto ?_; refine Sel4.mk rfl rfl ?_ ?_ <;> (repeat' (first | exact True.intro | exact rfl | exact Or.inl rfl | exact Or.inr rfl | refine And.intro ?_ ?_ | fail)))),⟨Nat.zero_le _,rfl⟩,fun i hi=>?_⟩
  obtain ⟨hi,hI⟩:=hi
  repeat' first | (refine fun (b : Bool) hb=>?_; cases b <;> (first | exact absurd hb (by decide) | exact Bool.noConfusion (show true = false from hb) | exact Bool.noConfusion (show false = true from hb) | skip)) | refine ⟨_,rfl,?_,rfl,?_⟩ | fail
  · refine hK _ ?_
    have e : l.drop i = []:=List.drop_eq_nil_of_le (by grind)
    rw [e] at hI
    rw [← hI]
    rfl
  · grind
  have hi2 : i < l.length:=by grind
  have hd : l.drop i = l[i] :: l.drop (i + 1):=List.drop_eq_getElem_cons hi2
  rw [hd] at hI
  refine ⟨l[i],rfl,?_⟩
  have hb0 : linesBad (l[i] :: l.drop (i + 1)) = if checkLine l[i] ≠ 0 then checkLine l[i] else linesBad (l.drop (i + 1)):=rfl
  generalize checkLine l[i] = e at hb0 ⊢
  repeat' first | (refine fun (b : Bool) hb=>?_; cases b <;> (first | exact absurd hb (by decide) | exact Bool.noConfusion (show true = false from hb) | exact Bool.noConfusion (show false = true from hb) | skip)) | refine And.intro (a:=I64 _) ?_ ?_ | fail
  · (first | omega | (unfold I64; omega) | (simp only [List.length_append,List.length_map,List.length_cons,List.length_nil,Nat.mul_one,Int.ofNat_eq_natCast] at *; omega) | (dsimp only at *; omega) | (unfold I64; dsimp only at *; omega) | (unfold I64; grind) | grind)
  · refine ⟨i + 1,(by (refine wk_auto ?_; refine Sel4.mk rfl rfl ?_ ?_ <;> (repeat' (first | exact True.intro | exact rfl | exact Or.inl rfl | exact Or.inr rfl | refine And.intro ?_ ?_ | fail)))),⟨by omega,?_⟩,by omega⟩
    rw [← hI,hb0,if_neg (by grind)]
  · refine hK _ ?_
    have he : e ≠ 0:=by grind
    rw [← hI,hb0,if_pos he]
end Gv
