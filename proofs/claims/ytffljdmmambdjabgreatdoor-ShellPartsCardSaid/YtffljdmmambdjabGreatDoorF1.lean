/- What functions of the program come to, part 1: in every world; the conditions stand in each theorem. -/
import Derived.Test.YtffljdmmambdjabGreatDoorVa
import Derived.Test.YtffljdmmambdjabGreatDoorVb
import Derived.Test.YtffljdmmambdjabGreatDoorVc
import Derived.Test.YtffljdmmambdjabGreatDoorVd
import Derived.Test.YtffljdmmambdjabGreatDoorVe
import Derived.Test.YtffljdmmambdjabGreatDoorVf
import Derived.Test.YtffljdmmambdjabGreatDoorProg
import Derived.Test.YtffljdmmambdjabGreatDoorSh
set_option linter.unusedVariables false
set_option linter.unusedSectionVars false
set_option linter.unusedSimpArgs false
open Go Go.Proofs Gw Gp
namespace Gv
variable [Glob]
noncomputable def tys : List (Nat × TI) := [(2, ⟨(.int .i64 0), 1, 8, false, (.int .i64)⟩),
    (3,⟨(.int .i64 0),1,8,false,(.int .i64)⟩),
    (4,⟨(.bool false),1,1,false,.bool⟩),
    (5,⟨(.int .u8 0),1,1,false,(.int .u8)⟩),
    (9,⟨(.string ⟨#[]⟩),1,16,false,.str⟩),
    (20,⟨.nilIface,1,16,false,.iface⟩),
    (22,⟨(.slice none 0 0),1,24,false,(.slice 67)⟩),
    (23,⟨(.slice none 0 0),1,24,false,(.slice 27)⟩),
    (24,⟨(.slice none 0 0),1,24,false,(.slice 9)⟩),
    (25,⟨(.slice none 0 0),1,24,false,(.slice 48)⟩),
    (27,⟨(.agg #[(.slice none 0 0),(.slice none 0 0),(.string ⟨#[]⟩)]),3,64,true,(.struct [(24,0),(25,1),(9,2)])⟩),
    (28,⟨(.slice none 0 0),1,24,false,(.slice 3)⟩),
    (29,⟨(.slice none 0 0),1,24,false,(.slice 5)⟩),
    (30,⟨(.int .i64 0),1,8,false,(.int .i64)⟩),
    (36,⟨.nilFunc,1,8,false,.other⟩),
    (37,⟨.nilFunc,1,8,false,.other⟩),
    (48,⟨(.agg #[(.int .i64 0),(.string ⟨#[]⟩),(.int .i64 0)]),3,32,true,(.struct [(3,0),(9,1),(3,2)])⟩),
    (67,⟨(.agg #[(.string ⟨#[]⟩),(.slice none 0 0)]),2,40,true,(.struct [(9,0),(29,1)])⟩),
    (70,⟨.nilFunc,1,8,false,.other⟩),
    (75,⟨.nilFunc,1,8,false,.other⟩),
    (80,⟨(.slice none 0 0),1,24,false,(.slice 29)⟩),
    (84,⟨.nilIface,1,16,false,.iface⟩),
    (92,⟨(.slice none 0 0),1,24,false,(.slice 99)⟩),
    (94,⟨(.agg #[(.slice none 0 0)]),1,24,true,(.struct [(92,0)])⟩),
    (97,⟨(.slice none 0 0),1,24,false,(.slice 173)⟩),
    (99,⟨(.agg #[(.int .i64 0),(.string ⟨#[]⟩),(.int .i64 0),(.string ⟨#[]⟩),(.int .i64 0),(.int .i64 0),(.int .i64 0),(.slice none 0 0)]),8,96,true,(.struct [(3,0),(9,1),(48,2),(3,5),(3,6),(97,7)])⟩),
    (100,⟨.nilFunc,1,8,false,.other⟩),
    (113,⟨(.slice none 0 0),1,24,false,(.slice 193)⟩),
    (114,⟨(.slice none 0 0),1,24,false,(.slice 195)⟩),
    (116,⟨(.agg #[(.slice none 0 0),(.slice none 0 0),(.slice none 0 0),(.slice none 0 0),(.slice none 0 0)]),5,120,true,(.struct [(94,0),(22,1),(113,2),(114,3),(29,4)])⟩),
    (119,⟨(.slice none 0 0),1,24,false,(.slice 30)⟩),
    (125,⟨.nilFunc,1,8,false,.other⟩),
    (127,⟨.nilFunc,1,8,false,.other⟩),
    (130,⟨(.map none),1,8,false,(.map 3 9)⟩),
    (133,⟨.nilFunc,1,8,false,.other⟩),
    (140,⟨(.pointer none),1,8,false,.other⟩),
    (142,⟨(.agg #[(.pointer none),(.slice none 0 0)]),2,32,true,(.struct [(140,0),(29,1)])⟩),
    (143,⟨(.agg #[(.string ⟨#[]⟩),(.string ⟨#[]⟩),(.string ⟨#[]⟩),(.string ⟨#[]⟩),(.string ⟨#[]⟩),(.string ⟨#[]⟩),(.string ⟨#[]⟩),(.string ⟨#[]⟩),(.string ⟨#[]⟩),(.string ⟨#[]⟩),(.string ⟨#[]⟩)]),11,176,true,(.array 11 9)⟩),
    (160,⟨.nilFunc,1,8,false,.other⟩),
    (168,⟨(.slice none 0 0),1,24,false,(.slice 24)⟩),
    (171,⟨(.slice none 0 0),1,24,false,(.slice 80)⟩),
    (173,⟨(.agg #[(.int .i64 0),(.int .i64 0)]),2,16,true,(.struct [(3,0),(3,1)])⟩),
    (177,⟨(.map none),1,8,false,(.map 3 3)⟩),
    (178,⟨(.map none),1,8,false,(.map 4 3)⟩),
    (179,⟨(.pointer none),1,8,false,.other⟩),
    (181,⟨(.agg #[(.slice none 0 0),(.slice none 0 0)]),2,48,true,(.struct [(94,0),(97,1)])⟩),
    (185,⟨(.map none),1,8,false,(.map 173 4)⟩),
    (189,⟨.nilFunc,1,8,false,.other⟩),
    (190,⟨.nilFunc,1,8,false,.other⟩),
    (193,⟨(.agg #[(.slice none 0 0),(.int .i64 0),(.bool false),(.bool false)]),4,40,true,(.struct [(29,0),(3,1),(4,2),(4,3)])⟩),
    (195,⟨(.agg #[(.slice none 0 0),(.int .i64 0),(.slice none 0 0),(.bool false),(.bool false)]),5,64,true,(.struct [(80,0),(3,1),(80,2),(4,3),(4,4)])⟩),
    (199,⟨(.pointer none),1,8,false,.other⟩),
    (209,⟨(.int .u64 0),1,8,false,(.int .u64)⟩),
    (249,⟨.nilFunc,1,8,false,.other⟩),
    (310,⟨(.pointer none),1,8,false,.other⟩),
    (314,⟨(.int .i64 0),1,8,false,(.int .i64)⟩),
    (348,⟨(.pointer none),1,8,false,.other⟩),
    (353,⟨(.int .u64 0),1,8,false,(.int .u64)⟩)]
theorem mixed0 : (Tryz.prog).follows .mixedOrders = true:=by kernel_rfl
theorem tys0 : TysOK Tryz.prog tys:=tys_ok (by kernel_rfl)
class Laid : Prop where
  maxlen : ∀ w,Sub Glob.mem w → ∃ n,w.cell? ⟨2,0,none⟩ = some (.int .i64 n)
class Nums : Prop where
  pow10 : ∀ w, Sub Glob.mem w → Lib.TabIs Tryz.prog w "internal/strconv.uint64pow10" .u64 Lib.pow10Tab
class Errs : Prop where
  syn : ∀ w, Sub Glob.mem w → ∃ tp p, w.var? Tryz.prog "strconv.ErrSyntax" = some #[.iface tp p]
  rng : ∀ w, Sub Glob.mem w → ∃ tp p, w.var? Tryz.prog "strconv.ErrRange" = some #[.iface tp p]
end Gv
namespace Gv
variable [Glob] [Laid]
theorem word1_ca : callable Tryz.prog 101 = true:=by kernel_rfl
def word1_S : Spec:=fun args K=>∃ (c : UInt8),args = [byteV c] ∧ K (.bool (!wordByte c))
noncomputable def word1_lib : List (Nat × Spec):=[]
noncomputable def word1_fns : List (Nat × FnI):=[]
noncomputable def word1_prims : List (Nat × PSpec):=[]
theorem word1_E : EnvOK ⟨Tryz.prog,tys,word1_lib,word1_fns,word1_prims,[]⟩:=env_ok mixed0 tys0 .nil .nil .nil rfl
set_option maxHeartbeats 4000000 in
theorem word1_ok : Pure Tryz.prog 101 word1_S:=by
  refine pure_by word1_E 6 (fi:={fn:=Tryz.f101,hooks:=[],draws:=[]}) ⟨Tryz.func101,by kernel_rfl,by kernel_rfl⟩ ?_
  rintro _ K ⟨c,rfl,hK⟩
  replace hK : ∀ r,r = .bool (!wordByte c) → K r:=fun r h=>h ▸ hK
  repeat' first | (refine fun (b : Bool) hb=>?_; cases b <;> (first | exact absurd hb (by decide) | exact Bool.noConfusion (show true = false from hb) | exact Bool.noConfusion (show false = true from hb) | skip)) | fail
  all_goals (refine hK _ ?_; unfold wordByte; congr 1; grind)
end Gv
namespace Gv
variable [Glob] [Laid]
theorem word_ca : callable Tryz.prog 32 = true:=by kernel_rfl
def word_S : Spec:=fun args K=>∃ (s : Bs),args = [.str s] ∧ K (.bool (isWord s))
noncomputable def word_lib : List (Nat × Spec):=[(101,word1_S)]
noncomputable def word_fns : List (Nat × FnI):=[(100,{fn:=Tryz.f100,hooks:=[],draws:=[]}),(162,{fn:=Tryz.f162,hooks:=[],draws:=[]})]
noncomputable def word_prims : List (Nat × PSpec):=[]
theorem word_E : EnvOK ⟨Tryz.prog,tys,word_lib,word_fns,word_prims,[]⟩:=env_ok mixed0 tys0 (.cons word1_ca word1_ok .nil) (.cons (by kernel_rfl) ⟨Tryz.func100,by kernel_rfl,by kernel_rfl⟩ (.cons (by kernel_rfl) ⟨Tryz.func162,by kernel_rfl,by kernel_rfl⟩ .nil)) .nil rfl
set_option maxHeartbeats 4000000 in
theorem word_ok : Pure Tryz.prog 32 word_S:=by
  refine pure_by word_E 6 (fi:={fn:=Tryz.f32,hooks:=[],draws:=[]}) ⟨Tryz.func32,by kernel_rfl,by kernel_rfl⟩ ?_
  rintro _ K ⟨s,rfl,hK⟩
  replace hK : ∀ r,r = .bool (isWord s) → K r:=fun r h=>h ▸ hK
  repeat' first | (refine fun (b : Bool) hb=>?_; cases b <;> (first | exact absurd hb (by decide) | exact Bool.noConfusion (show true = false from hb) | exact Bool.noConfusion (show false = true from hb) | skip)) | (refine fun (hl : _ ≤ MAXL)=>?_) | refine And.intro (a:=_ ≤ 140737488355328) ?_ ?_ | refine Opt.a ?_ | fail
  · refine hK _ ?_
    have h : (!decide (s = [])) = false:=by assumption
    have : s = []:=by simpa using h
    subst this; rfl
  · refine hK _ ?_
    have h : decide ((s.length : Int) ≤ 12) = false:=by assumption
    have h2 : ¬ s.length ≤ 12:=by
      intro h3
      have : ((s.length : Int) ≤ 12):=by omega
      simp [this] at h
    simp [isWord,h2]
  · have h : decide ((s.length : Int) ≤ 12) = true:=by assumption
    have h2 : (s.length : Int) ≤ 12:=by simpa using h
    omega
  have hw : ∃ t : Bool,isWord s = t ∧ t = s.all wordByte:=by
    have h : (!decide (s = [])) = true:=by assumption
    have h1 : s ≠ []:=by simpa using h
    have h : decide ((s.length : Int) ≤ 12) = true:=by assumption
    have h2 : (s.length : Int) ≤ 12:=by simpa using h
    have h3 : s.length ≤ 12:=by omega
    exact ⟨s.all wordByte,by simp [isWord,h1,h3],rfl⟩
  obtain ⟨t,ht,hta⟩:=hw
  rw [ht] at hK
  conv=>whnf
  refine loop_live [0,1,7] (σ:=Nat) (fun i=>[(8,.int .i64 i)]) (fun _=>[]) (fun i=>i ≤ s.length ∧ (s.take i).all wordByte = true) (fun i=>s.length - i) 0 ?_
  conv=>whnf
  refine ⟨(by (refine wk_sel [] rfl rfl ?_ ?_ <;> (repeat' (first | exact True.intro | exact rfl | exact Or.inl rfl | exact Or.inr rfl | refine And.intro ?_ ?_ | fail)))),⟨Nat.zero_le _,rfl⟩,fun i hi=>?_⟩
  obtain ⟨hi,hI⟩:=hi
  repeat' first | (refine fun (b : Bool) hb=>?_; cases b <;> (first | exact absurd hb (by decide) | exact Bool.noConfusion (show true = false from hb) | exact Bool.noConfusion (show false = true from hb) | skip)) | refine ⟨_,rfl,?_,rfl,?_⟩ | fail
  · have e : s.take i = s:=List.take_of_length_le (by grind)
    rw [e] at hI
    refine hK _ ?_
    rw [hta,hI]
    rfl
  · grind
  have hi2 : i < s.length:=by grind
  refine ⟨s[i],rfl,?_⟩
  have hts : s.take (i + 1) = s.take i ++ [s[i]]:=List.take_succ_eq_append_getElem hi2
  repeat' first | (refine fun (b : Bool) hb=>?_; cases b <;> (first | exact absurd hb (by decide) | exact Bool.noConfusion (show true = false from hb) | exact Bool.noConfusion (show false = true from hb) | skip)) | refine And.intro (a:=I64 _) ?_ ?_ | fail
  · (first | omega | (unfold I64; omega) | (simp only [List.length_append,List.length_map,List.length_cons,List.length_nil,Nat.mul_one,Int.ofNat_eq_natCast] at *; omega) | (dsimp only at *; omega) | (unfold I64; dsimp only at *; omega) | (unfold I64; grind) | grind)
  · refine ⟨i + 1,(by (refine wk_sel [] rfl rfl ?_ ?_ <;> (repeat' (first | exact True.intro | exact rfl | exact Or.inl rfl | exact Or.inr rfl | refine And.intro ?_ ?_ | fail)))),⟨by omega,?_⟩,by omega⟩
    rw [hts,List.all_append,hI]
    grind
  · refine hK _ ?_
    have h1 : wordByte s[i] = false:=by grind
    have h2 : s.all wordByte = false:=by
      rw [List.all_eq_false]
      exact ⟨s[i],List.getElem_mem hi2,by simp [h1]⟩
    rw [hta,h2]
    simp
end Gv
namespace Gv
variable [Glob] [Laid]
theorem ccheck_ca : callable Tryz.prog 31 = true:=by kernel_rfl
def ccheck_S : Spec:=fun args K=>∃ (k : Int) (s : Bs) (n : Int),args = [.agg [.int .i64 k,.str s,.int .i64 n]] ∧ K (.int .i64 (checkCmd ⟨k,s,n⟩))
noncomputable def ccheck_lib : List (Nat × Spec):=[(32,word_S)]
noncomputable def ccheck_fns : List (Nat × FnI):=[]
noncomputable def ccheck_prims : List (Nat × PSpec):=[]
theorem ccheck_E : EnvOK ⟨Tryz.prog,tys,ccheck_lib,ccheck_fns,ccheck_prims,[]⟩:=env_ok mixed0 tys0 (.cons word_ca word_ok .nil) .nil .nil rfl
set_option maxHeartbeats 4000000 in
theorem ccheck_ok : Pure Tryz.prog 31 ccheck_S:=by
  refine pure_by ccheck_E 6 (fi:={fn:=Tryz.f31,hooks:=[4,5,7,9],draws:=[]}) ⟨Tryz.func31,by kernel_rfl,by kernel_rfl⟩ ?_
  rintro _ K ⟨k,s,n,rfl,hK⟩
  replace hK : ∀ r,r = .int .i64 (checkCmd ⟨k,s,n⟩) → K r:=fun r h=>h ▸ hK
  obtain ⟨uw,huw⟩ : ∃ b,useWord ⟨k,s,n⟩ = b:=⟨_,rfl⟩
  obtain ⟨un,hun⟩ : ∃ b,useN ⟨k,s,n⟩ = b:=⟨_,rfl⟩
  have hc : checkCmd ⟨k,s,n⟩ = if k < 1 ∨ 10 < k then 4 else if (uw = false ∧ s ≠ []) ∨ (un = false ∧ n ≠ 0) then 4 else if un = true ∧ (n < 1 ∨ 1000 < n) then 3 else if (uw = true ∧ isWord s = false) ∨ (k = 3 ∧ s.length ≠ 2) then 1 else 0:=by
    unfold checkCmd
    rw [huw,hun]
  rw [hc] at hK
  clear hc
  simp only [useWord] at huw
  simp only [useN] at hun
  repeat' first | (refine fun (b : Bool) hb=>?_; cases b <;> (first | exact absurd hb (by decide) | exact Bool.noConfusion (show true = false from hb) | exact Bool.noConfusion (show false = true from hb) | skip)) | fail
  rotate_left
  · exact hK _ (by rw [if_pos (by grind)])
  · exact hK _ (by rw [if_pos (by grind)])
  have h1 : ¬ (k < 1 ∨ 10 < k):=by grind
  simp only [h1,if_false] at hK
  conv=>whnf
  refine join_live [1] (σ:=Bool) (fun b=>[(3,.bool b)]) (fun _=>[.box [.int .i64 k,.str s,.int .i64 n]]) (fun b=>b = uw) ?_
  conv=>whnf
  refine ⟨?_,fun b hbu=>?_⟩
  · repeat' first | (refine fun (b : Bool) hb=>?_; cases b <;> (first | exact absurd hb (by decide) | exact Bool.noConfusion (show true = false from hb) | exact Bool.noConfusion (show false = true from hb) | skip)) | fail
    all_goals (refine ⟨_,by refine wk_sel [some 0] rfl rfl ?_ ?_ <;> (repeat' (first | exact True.intro | exact rfl | exact Or.inl rfl | exact Or.inr rfl | refine And.intro ?_ ?_ | fail)),?_⟩; rw [← huw]; simp_all)
  obtain rfl : uw = b:=hbu.symm
  clear huw
  conv=>whnf
  refine join_live [1,3] (σ:=Bool) (fun b=>[(4,.bool b)]) (fun _=>[.box [.int .i64 k,.str s,.int .i64 n]]) (fun b=>b = un) ?_
  conv=>whnf
  refine ⟨?_,fun b hbu=>?_⟩
  · repeat' first | (refine fun (b : Bool) hb=>?_; cases b <;> (first | exact absurd hb (by decide) | exact Bool.noConfusion (show true = false from hb) | exact Bool.noConfusion (show false = true from hb) | skip)) | fail
    all_goals (refine ⟨_,by refine wk_sel [some 0] rfl rfl ?_ ?_ <;> (repeat' (first | exact True.intro | exact rfl | exact Or.inl rfl | exact Or.inr rfl | refine And.intro ?_ ?_ | fail)),?_⟩; rw [← hun]; simp_all)
  obtain rfl : un = b:=hbu.symm
  clear hun
  conv=>whnf
  refine join_live [1,3,4] (σ:=Unit) (fun b=>[]) (fun _=>[.box [.int .i64 k,.str s,.int .i64 n]]) (fun b=>¬ ((uw = false ∧ s ≠ []) ∨ (un = false ∧ n ≠ 0))) ?_
  conv=>whnf
  refine ⟨?_,fun _ h2=>?_⟩
  · repeat' first | (refine fun (b : Bool) hb=>?_; cases b <;> (first | exact absurd hb (by decide) | exact Bool.noConfusion (show true = false from hb) | exact Bool.noConfusion (show false = true from hb) | skip)) | fail
    all_goals (conv=>whnf)
    all_goals first
      | (refine ⟨(),(by (refine wk_sel [some 0] rfl rfl ?_ ?_ <;> (repeat' (first | exact True.intro | exact rfl | exact Or.inl rfl | exact Or.inr rfl | refine And.intro ?_ ?_ | fail)))),?_⟩; simp_all; done)
      | (refine hK _ ?_; rw [if_pos]; simp_all; done)
  simp only [h2,if_false] at hK
  conv=>whnf
  refine join_live [1,3] (σ:=Unit) (fun b=>[]) (fun _=>[.box [.int .i64 k,.str s,.int .i64 n]]) (fun b=>¬ (un = true ∧ (n < 1 ∨ 1000 < n))) ?_
  conv=>whnf
  refine ⟨?_,fun _ h3=>?_⟩
  · repeat' first | (refine fun (b : Bool) hb=>?_; cases b <;> (first | exact absurd hb (by decide) | exact Bool.noConfusion (show true = false from hb) | exact Bool.noConfusion (show false = true from hb) | skip)) | fail
    all_goals (conv=>whnf)
    all_goals first
      | (refine ⟨(),(by (refine wk_sel [some 0] rfl rfl ?_ ?_ <;> (repeat' (first | exact True.intro | exact rfl | exact Or.inl rfl | exact Or.inr rfl | refine And.intro ?_ ?_ | fail)))),?_⟩; simp_all; done)
      | (refine hK _ ?_; rw [if_pos]; simp_all; done)
  simp only [h3,if_false] at hK
  repeat' first | (refine fun (b : Bool) hb=>?_; cases b <;> (first | exact absurd hb (by decide) | exact Bool.noConfusion (show true = false from hb) | exact Bool.noConfusion (show false = true from hb) | skip)) | (refine fun (hl : _ ≤ MAXL)=>?_) | fail
  all_goals (conv=>whnf)
  any_goals first
      | (refine hK _ ?_; rw [if_pos]; simp_all; done)
      | (refine hK _ ?_; rw [if_neg]; simp_all; done)
  refine ⟨s,rfl,?_⟩
  repeat' first | (refine fun (b : Bool) hb=>?_; cases b <;> (first | exact absurd hb (by decide) | exact Bool.noConfusion (show true = false from hb) | exact Bool.noConfusion (show false = true from hb) | skip)) | (refine fun (hl : _ ≤ MAXL)=>?_) | fail
  all_goals (conv=>whnf)
  any_goals first
      | (refine hK _ ?_; rw [if_pos]; simp_all; done)
      | (refine hK _ ?_; rw [if_neg]; simp_all; done)
  · refine hK _ ?_
    rw [if_neg]
    grind
  · refine hK _ ?_
    rw [if_pos]
    grind
end Gv
namespace Gv
variable [Glob] [Laid]
theorem cline_ca : callable Tryz.prog 42 = true:=by kernel_rfl
def cline_S : Spec:=fun args K=>∃ (f : List Bs) (c : List Cmd) (t : Bs),args = [.agg [.sl strV f,.sl cmdV c,.str t]] ∧ K (.int .i64 (checkLine ⟨f,c,t⟩))
noncomputable def cline_lib : List (Nat × Spec):=[(31,ccheck_S),(32,word_S)]
noncomputable def cline_fns : List (Nat × FnI):=[(113,{fn:=Tryz.f113,hooks:=[],draws:=[]})]
noncomputable def cline_prims : List (Nat × PSpec):=[]
theorem cline_E : EnvOK ⟨Tryz.prog,tys,cline_lib,cline_fns,cline_prims,[]⟩:=env_ok mixed0 tys0 (.cons ccheck_ca ccheck_ok (.cons word_ca word_ok .nil)) (.cons (by kernel_rfl) ⟨Tryz.func113,by kernel_rfl,by kernel_rfl⟩ .nil) .nil rfl
set_option maxHeartbeats 4000000 in
theorem cline_ok : Pure Tryz.prog 42 cline_S:=by
  refine pure_by cline_E 6 (fi:={fn:=Tryz.f42,hooks:=[3],draws:=[(3,[0,1,3,0,8,24,63,127,0])]}) ⟨Tryz.func42,by kernel_rfl,by kernel_rfl⟩ ?_
  rintro _ K ⟨f,c,t,rfl,hK⟩
  replace hK : ∀ r,r = .int .i64 (checkLine ⟨f,c,t⟩) → K r:=fun r h=>h ▸ hK
  unfold checkLine at hK
  dsimp only at hK
  conv=>whnf
  refine join_live [1] (σ:=Unit) (fun b=>[]) (fun _=>[.box [.sl strV f,.sl cmdV c,.str t]]) (fun b=>¬ (f.length = 0 ∨ 4 < f.length ∨ 6 < c.length)) ?_
  conv=>whnf
  refine ⟨?_,fun _ h1=>?_⟩
  · repeat' first | (refine fun (b : Bool) hb=>?_; cases b <;> (first | exact absurd hb (by decide) | exact Bool.noConfusion (show true = false from hb) | exact Bool.noConfusion (show false = true from hb) | skip)) | (refine fun (hl : _ ≤ MAXL)=>?_) | fail
    all_goals (conv=>whnf)
    all_goals first
      | (refine ⟨(),(by (refine wk_sel [some 0] rfl rfl ?_ ?_ <;> (repeat' (first | exact True.intro | exact rfl | exact Or.inl rfl | exact Or.inr rfl | refine And.intro ?_ ?_ | fail)))),?_⟩; simp_all; omega)
      | (refine hK _ ?_; rw [if_pos]; simp_all; omega)
      | (refine hK _ ?_; rw [if_pos]; simp_all; done)
  rw [if_neg h1] at hK
  repeat' first | exact True.intro | refine ⟨_,⟨rfl,rfl⟩,?_⟩ | refine And.intro (a:=chkPast _ _ _ _ _ _ _ _) ?_ ?_ | fail
  conv=>whnf
  apply Exists.intro
  apply Exists.intro
  apply And.intro
  · repeat' first | (refine fun (b : Bool) hb=>?_; cases b <;> (first | exact absurd hb (by decide) | exact Bool.noConfusion (show true = false from hb) | exact Bool.noConfusion (show false = true from hb) | skip)) | refine And.intro (a:=_ ≤ 140737488355328) ?_ ?_ | refine ⟨(fun _=>rfl),?_⟩ | refine ⟨rfl,?_⟩ | fail
    · simp only [List.length_nil,List.length_map]
      omega
    · exact rfl
    · exfalso
      have h : true = true → f = []:=by assumption
      simp [h rfl] at h1
  repeat' first | exact True.intro | refine ⟨_,⟨rfl,rfl⟩,?_⟩ | refine And.intro (a:=chkPend _ _ _ _ _ _) ?_ ?_ | refine And.intro (a:=chkPast _ _ _ _ _ _ _ _) ?_ ?_ | refine ⟨⟨rfl,rfl⟩,?_⟩ | fail
  refine ⟨_,⟨Bs,strV,[t],LeL.refl _,rfl,rfl⟩,?_⟩
  refine ⟨_,_,⟨fun _=>rfl,?_,rfl,rfl⟩,?_⟩
  · simp only [List.length_nil,List.length_map,List.length_append,List.nil_append,elsOf,List.length_cons]
    omega
  have hels : [] ++ f.map strV ++ [t].map strV = (f ++ [t]).map strV:=by simp
  repeat' first | exact True.intro | refine ⟨_,⟨rfl,rfl⟩,?_⟩ | refine ⟨_,(fun _=>⟨rfl,rfl⟩),?_⟩ | refine And.intro (a:=chkPend _ _ _ _ _ _) ?_ ?_ | refine And.intro (a:=chkPast _ _ _ _ _ _ _ _) ?_ ?_ | fail
  rw [hels]
  generalize hg : f ++ [t] = g at hK hels ⊢
  have hgl : g.length ≤ 5:=by
    rw [← hg]
    simp only [List.length_append,List.length_cons,List.length_nil]
    omega
  conv=>whnf
  refine loop_live [1,30,31] (σ:=Nat) (fun i=>[(32,.int .i64 i)]) (fun _=>[.box [.sl strV f,.sl cmdV c,.str t],.dead,.dead,.row 1 (g.map strV)]) (fun i=>i ≤ g.length ∧ (g.take i).all isWord = true) (fun i=>g.length - i) 0 ?_
  conv=>whnf
  refine ⟨(by (refine wk_sel [some 0,some 1,some 2,some 3] rfl rfl ?_ ?_ <;> (repeat' (first | exact True.intro | exact rfl | exact Or.inl rfl | exact Or.inr rfl | refine And.intro ?_ ?_ | fail)))),⟨Nat.zero_le _,rfl⟩,fun i hi=>?_⟩
  obtain ⟨hi,hI⟩:=hi
  repeat' first | (refine fun (b : Bool) hb=>?_; cases b <;> (first | exact absurd hb (by decide) | exact Bool.noConfusion (show true = false from hb) | exact Bool.noConfusion (show false = true from hb) | skip)) | (refine fun (hl : _ ≤ MAXL)=>?_) | refine ⟨rfl,?_⟩ | fail
  · have e : g.take i = g:=List.take_of_length_le (by grind)
    rw [e] at hI
    simp only [hI] at hK
    conv=>whnf
    refine loop_live [41,42] (σ:=Nat) (fun i=>[(43,.int .i64 i)]) (fun _=>[.box [.sl strV f,.sl cmdV c,.str t],.dead,.dead,.row 1 (g.map strV)]) (fun i=>i ≤ c.length ∧ firstBad (c.drop i) = firstBad c) (fun i=>c.length - i) 0 ?_
    conv=>whnf
    refine ⟨(by (refine wk_sel [some 0,some 1,some 2,some 3] rfl rfl ?_ ?_ <;> (repeat' (first | exact True.intro | exact rfl | exact Or.inl rfl | exact Or.inr rfl | refine And.intro ?_ ?_ | fail)))),⟨Nat.zero_le _,rfl⟩,fun i hi=>?_⟩
    obtain ⟨hi,hJ⟩:=hi
    repeat' first | (refine fun (b : Bool) hb=>?_; cases b <;> (first | exact absurd hb (by decide) | exact Bool.noConfusion (show true = false from hb) | exact Bool.noConfusion (show false = true from hb) | skip)) | refine ⟨_,rfl,?_,rfl,?_⟩ | fail
    · refine hK _ ?_
      have e : c.drop i = []:=List.drop_eq_nil_of_le (by grind)
      rw [e] at hJ
      rw [← hJ]
      rfl
    · grind
    · have hi2 : i < c.length:=by grind
      have hd : c.drop i = c[i] :: c.drop (i + 1):=List.drop_eq_getElem_cons hi2
      rw [hd] at hJ
      refine ⟨c[i].kind,c[i].word,c[i].n,rfl,?_⟩
      have hb0 : firstBad (c[i] :: c.drop (i + 1)) = if checkCmd c[i] = 0 then firstBad (c.drop (i + 1)) else checkCmd c[i]:=rfl
      have hcc : checkCmd ⟨c[i].kind,c[i].word,c[i].n⟩ = checkCmd c[i]:=rfl
      rw [hcc]
      generalize checkCmd c[i] = e at hb0 ⊢
      repeat' first | (refine fun (b : Bool) hb=>?_; cases b <;> (first | exact absurd hb (by decide) | exact Bool.noConfusion (show true = false from hb) | exact Bool.noConfusion (show false = true from hb) | skip)) | refine And.intro (a:=I64 _) ?_ ?_ | fail
      · (first | omega | (unfold I64; omega) | (simp only [List.length_append,List.length_map,List.length_cons,List.length_nil,Nat.mul_one,Int.ofNat_eq_natCast] at *; omega) | (dsimp only at *; omega) | (unfold I64; dsimp only at *; omega) | (unfold I64; grind) | grind)
      · refine ⟨i + 1,(by (refine wk_sel [some 0,some 1,some 2,some 3] rfl rfl ?_ ?_ <;> (repeat' (first | exact True.intro | exact rfl | exact Or.inl rfl | exact Or.inr rfl | refine And.intro ?_ ?_ | fail)))),⟨by omega,?_⟩,by omega⟩
        rw [← hJ,hb0,if_pos (by grind)]
      · refine hK _ ?_
        have he : ¬ e = 0:=by grind
        rw [← hJ,hb0]
        simp [he]
  have hi2 : i < g.length:=by grind
  refine ⟨i,rfl,by simpa using hi2,?_⟩
  refine ⟨strV g[i],by simp [hi2],?_⟩
  refine ⟨g[i],rfl,?_⟩
  have hts : g.take (i + 1) = g.take i ++ [g[i]]:=List.take_succ_eq_append_getElem hi2
  repeat' first | (refine fun (b : Bool) hb=>?_; cases b <;> (first | exact absurd hb (by decide) | exact Bool.noConfusion (show true = false from hb) | exact Bool.noConfusion (show false = true from hb) | skip)) | refine And.intro (a:=I64 _) ?_ ?_ | fail
  · (first | omega | (unfold I64; omega) | (simp only [List.length_append,List.length_map,List.length_cons,List.length_nil,Nat.mul_one,Int.ofNat_eq_natCast] at *; omega) | (dsimp only at *; omega) | (unfold I64; dsimp only at *; omega) | (unfold I64; grind) | grind)
  · refine ⟨i + 1,(by (refine wk_sel [some 0,some 1,some 2,some 3] rfl rfl ?_ ?_ <;> (repeat' (first | exact True.intro | exact rfl | exact Or.inl rfl | exact Or.inr rfl | refine And.intro ?_ ?_ | fail)))),⟨by omega,?_⟩,by omega⟩
    rw [hts,List.all_append,hI]
    grind
  · refine hK _ ?_
    have h1 : g.all isWord = false:=by
      rw [List.all_eq_false]
      exact ⟨g[i],List.getElem_mem hi2,by grind⟩
    rw [if_pos h1]
end Gv
namespace Gv
variable [Glob] [Laid]
theorem cfiles_ca : callable Tryz.prog 89 = true:=by kernel_rfl
def cfiles_S : Spec:=fun args K=>∃ l : List FileS,args = [.sl fileV l] ∧ K (.int .i64 (checkFiles l))
noncomputable def cfiles_lib : List (Nat × Spec):=[(32,word_S)]
noncomputable def cfiles_fns : List (Nat × FnI):=[]
noncomputable def cfiles_prims : List (Nat × PSpec):=[]
theorem cfiles_E : EnvOK ⟨Tryz.prog,tys,cfiles_lib,cfiles_fns,cfiles_prims,[]⟩:=env_ok mixed0 tys0 (.cons word_ca word_ok .nil) .nil .nil rfl
set_option maxHeartbeats 8000000 in
theorem cfiles_ok : Pure Tryz.prog 89 cfiles_S:=by
  refine pure_by cfiles_E 6 (fi:={fn:=Tryz.f89,hooks:=[],draws:=[(10,[0,1,3,7,7,23,63,127,255,7,519,2047,4095])]}) ⟨Tryz.func89,by kernel_rfl,by kernel_rfl⟩ ?_
  rintro _ K ⟨l,rfl,hK⟩
  replace hK : ∀ r,r = .int .i64 (checkFiles l) → K r:=fun r h=>h ▸ hK
  repeat' first | (refine fun (b : Bool) hb=>?_; cases b <;> (first | exact absurd hb (by decide) | exact Bool.noConfusion (show true = false from hb) | exact Bool.noConfusion (show false = true from hb) | skip)) | (refine fun (hl : _ ≤ MAXL)=>?_) | fail
  rotate_left
  · refine hK _ ?_
    have h:=of_decide_eq_true (by assumption : decide ((12 : Int) < (l.length : Int)) = true)
    unfold checkFiles
    rw [if_pos (by omega)]
  have h12 : ¬ 12 < l.length:=by
    have h:=of_decide_eq_false (by assumption : decide ((12 : Int) < (l.length : Int)) = false)
    omega
  have hcf : checkFiles l = filesGo none l:=by unfold checkFiles; rw [if_neg h12]
  rw [hcf] at hK
  conv=>whnf
  refine loop_live [0,8,9] (σ:=Nat) (fun i=>[(10,.int .i64 i)]) (fun i=>[]) (fun i=>i ≤ l.length ∧ filesGo (prevN l i) (l.drop i) = filesGo none l) (fun i=>l.length - i) 0 ?_
  conv=>whnf
  refine ⟨(by (refine wk_auto ?_; refine Sel4.mk rfl rfl ?_ ?_ <;> (repeat' (first | exact True.intro | exact rfl | exact Or.inl rfl | exact Or.inr rfl | refine And.intro ?_ ?_ | fail)))),⟨Nat.zero_le _,rfl⟩,fun i hi=>?_⟩
  obtain ⟨hi,hg⟩:=hi
  repeat' first | (refine fun (b : Bool) hb=>?_; cases b <;> (first | exact absurd hb (by decide) | exact Bool.noConfusion (show true = false from hb) | exact Bool.noConfusion (show false = true from hb) | skip)) | refine ⟨_,rfl,?_,rfl,?_⟩ | fail
  · have h:=of_decide_eq_false (by assumption : decide ((i : Int) < (l.length : Int)) = false)
    have e : l.drop i = []:=List.drop_eq_nil_of_le (by omega)
    rw [e] at hg
    conv=>whnf
    refine hK _ ?_
    rw [← hg]
    rfl
  · have h:=of_decide_eq_true (by assumption : decide ((i : Int) < (l.length : Int)) = true)
    show i < l.length
    omega
  have hlt : i < l.length:=by
    have h:=of_decide_eq_true (by assumption : decide ((i : Int) < (l.length : Int)) = true)
    omega
  rw [filesGo_at hlt] at hg
  refine ⟨l[i].name,rfl,?_⟩
  repeat' first | (refine fun (b : Bool) hb=>?_; cases b <;> (first | exact absurd hb (by decide) | exact Bool.noConfusion (show true = false from hb) | exact Bool.noConfusion (show false = true from hb) | skip)) | (refine fun (hl : _ ≤ MAXL)=>?_) | refine And.intro (a:=I64 _) ?_ ?_ | refine ⟨_,⟨rfl,rfl⟩,?_⟩ | refine ⟨_,And.intro (a:=I64 _) ?_ ⟨rfl,rfl⟩,?_⟩ | fail
  · unfold I64; omega
  · have h1 : isWord l[i].name = true := by
      have h : (!isWord l[i].name) = false:=by assumption
      simpa using h
    have h2 : ¬ (4000 : Int) < (l[i].b.length : Int):=of_decide_eq_false (by assumption)
    have h3 : ¬ (0 : Int) < (i : Int):=of_decide_eq_false (by assumption)
    have e0 : i = 0:=by omega
    have h4 : notRise (prevN l i) l[i].name = false:=by
      have : prevN l i = none:=by unfold prevN; rw [if_pos e0]
      rw [this]; rfl
    rw [if_neg (by rw [h1]; decide),if_neg (by omega),if_neg (by rw [h4]; decide)] at hg
    exact ⟨i + 1,(by (refine wk_auto ?_; refine Sel4.mk rfl rfl ?_ ?_ <;> (repeat' (first | exact True.intro | exact rfl | exact Or.inl rfl | exact Or.inr rfl | refine And.intro ?_ ?_ | fail)))),⟨hlt,hg⟩,by omega⟩
  · unfold I64; omega
  · have h1 : isWord l[i].name = true := by
      have h : (!isWord l[i].name) = false:=by assumption
      simpa using h
    have h2 : ¬ (4000 : Int) < (l[i].b.length : Int):=of_decide_eq_false (by assumption)
    have h3 : (0 : Int) < (i : Int):=of_decide_eq_true (by assumption)
    have hp : prevN l i = some (l[i - 1]'(by omega)).name:=by
      unfold prevN
      rw [if_neg (by omega),List.getD_eq_getElem?_getD,List.getElem?_eq_getElem (by omega)]
      rfl
    rw [if_neg (by rw [h1]; decide),if_neg (by omega),hp] at hg
    conv=>whnf
    refine ⟨_,⟨i - 1,by omega,by omega,rfl,rfl,rfl⟩,?_⟩
    repeat' first | exact True.intro | (refine fun (b : Bool) hb=>?_; cases b <;> (first | exact absurd hb (by decide) | exact Bool.noConfusion (show true = false from hb) | exact Bool.noConfusion (show false = true from hb) | skip)) | refine And.intro (a:=I64 _) ?_ ?_ | refine ⟨_,⟨rfl,rfl⟩,?_⟩ | refine And.intro (a:=chkPast _ _ _ _ _ _ _ _) ?_ ?_ | fail
    · unfold I64; omega
    · have h4 : notRise (some (l[i - 1]'(by omega)).name) l[i].name = false := by
        have h : (!Op.bytesLess (l[i - 1]'(by omega)).name l[i].name) = false:=by assumption
        exact h
      rw [if_neg (by rw [h4]; decide)] at hg
      exact ⟨i + 1,(by (refine wk_auto ?_; refine Sel4.mk rfl rfl ?_ ?_ <;> (repeat' (first | exact True.intro | exact rfl | exact Or.inl rfl | exact Or.inr rfl | refine And.intro ?_ ?_ | fail)))),⟨hlt,hg⟩,by omega⟩
    · have h4 : notRise (some (l[i - 1]'(by omega)).name) l[i].name = true := by
        have h : (!Op.bytesLess (l[i - 1]'(by omega)).name l[i].name) = true:=by assumption
        exact h
      rw [if_pos h4] at hg
      conv=>whnf
      exact hK _ (by rw [← hg])
  · have h1 : isWord l[i].name = true := by
      have h : (!isWord l[i].name) = false:=by assumption
      simpa using h
    have h2 : (4000 : Int) < (l[i].b.length : Int):=of_decide_eq_true (by assumption)
    rw [if_neg (by rw [h1]; decide),if_pos (by omega)] at hg
    conv=>whnf
    exact hK _ (by rw [← hg])
  · have h1 : isWord l[i].name = false := by
      have h : (!isWord l[i].name) = true:=by assumption
      simpa using h
    rw [if_pos h1] at hg
    conv=>whnf
    exact hK _ (by rw [← hg])
end Gv
namespace Gv
variable [Glob] [Laid]
theorem placeF_ca : callable Tryz.prog 125 = true:=by kernel_rfl
def placeF_S : Spec:=fun args K=>∃ (l : List FileS) (n : Bs),args = [.sl fileV l,.str n] ∧ K (.tup [.int .i64 (placeI l n : Nat),.bool (isAt l n)])
noncomputable def placeF_lib : List (Nat × Spec):=[]
noncomputable def placeF_fns : List (Nat × FnI):=[(128,{fn:=Tryz.f128,hooks:=[],draws:=[]}),(181,{fn:=Tryz.f181,hooks:=[],draws:=[]})]
noncomputable def placeF_prims : List (Nat × PSpec):=[]
theorem placeF_E : EnvOK ⟨Tryz.prog,tys,placeF_lib,placeF_fns,placeF_prims,[]⟩:=env_ok mixed0 tys0 .nil (.cons (by kernel_rfl) ⟨Tryz.func128,by kernel_rfl,by kernel_rfl⟩ (.cons (by kernel_rfl) ⟨Tryz.func181,by kernel_rfl,by kernel_rfl⟩ .nil)) .nil rfl
set_option maxHeartbeats 8000000 in
theorem placeF_ok : Pure Tryz.prog 125 placeF_S:=by
  refine pure_by placeF_E 6 (fi:={fn:=Tryz.f125,hooks:=[],draws:=[(4,[0,0,0,6,14,30,0,126,1,511])]}) ⟨Tryz.func125,by kernel_rfl,by kernel_rfl⟩ ?_
  rintro _ K ⟨l,n,rfl,hK⟩
  replace hK : ∀ r,r = .tup [.int .i64 (placeI l n : Nat),.bool (isAt l n)] → K r:=fun r h=>h ▸ hK
  repeat' first | (refine fun (hl : _ ≤ MAXL)=>?_) | fail
  conv=>whnf
  refine loop_live [0,1,7] (σ:=Nat) (fun i=>[(8,.int .i64 i)]) (fun i=>[.box [.str n]]) (fun i=>i ≤ l.length ∧ ∀ j (h : j < l.length),j < i → notLess n l[j] = false) (fun i=>l.length - i) 0 ?_
  conv=>whnf
  refine ⟨(by (refine wk_auto ?_; refine Sel4.mk rfl rfl ?_ ?_ <;> (repeat' (first | exact True.intro | exact rfl | exact Or.inl rfl | exact Or.inr rfl | refine And.intro ?_ ?_ | fail)))),⟨Nat.zero_le _,fun j h h'=>by omega⟩,fun i hi=>?_⟩
  obtain ⟨hi,hn⟩:=hi
  repeat' first | exact True.intro | (refine fun (b : Bool) hb=>?_; cases b <;> (first | exact absurd hb (by decide) | exact Bool.noConfusion (show true = false from hb) | exact Bool.noConfusion (show false = true from hb) | skip)) | (refine fun (hl : _ ≤ MAXL)=>?_) | refine And.intro (a:=I64 _) ?_ ?_ | refine ⟨_,⟨rfl,rfl⟩,?_⟩ | refine And.intro (a:=chkPast _ _ _ _ _ _ _ _) ?_ ?_ | refine ⟨_,⟨_,rfl,?_,rfl,rfl,rfl⟩,?_⟩ | refine ⟨_,rfl,?_,rfl,?_⟩ | fail
  · have hge : ¬ (i : Int) < (l.length : Int):=of_decide_eq_false (by assumption)
    have ei : i = l.length:=by omega
    have hp : placeI l n = l.length:=place_end fun j hj=>hn j hj (by omega)
    skip
    refine hK _ ?_
    unfold isAt
    rw [hp,List.getElem?_eq_none (Nat.le_refl _)]
  · have h:=of_decide_eq_true (by assumption : decide ((i : Int) < (l.length : Int)) = true)
    show i < l.length
    omega
  · have hl0 : l.length ≤ MAXL:=by assumption
    unfold MAXL at hl0
    have h:=of_decide_eq_true (by assumption : decide ((i : Int) < (l.length : Int)) = true)
    unfold I64; omega
  · have hlt : i < l.length := by
      have h:=of_decide_eq_true (by assumption : decide ((i : Int) < (l.length : Int)) = true)
      omega
    have hx : notLess n l[i] = false:=by assumption
    refine ⟨i + 1,(by (refine wk_auto ?_; refine Sel4.mk rfl rfl ?_ ?_ <;> (repeat' (first | exact True.intro | exact rfl | exact Or.inl rfl | exact Or.inr rfl | refine And.intro ?_ ?_ | fail)))),⟨hlt,fun j hj hj2=>?_⟩,by omega⟩
    rcases Nat.lt_or_ge j i with h | h
    · exact hn j hj h
    · have : j = i:=by omega
      subst this
      exact hx
  · have h:=of_decide_eq_true (by assumption : decide ((i : Int) < (l.length : Int)) = true)
    show i < l.length
    omega
  · have hlt : i < l.length := by
      have h:=of_decide_eq_true (by assumption : decide ((i : Int) < (l.length : Int)) = true)
      omega
    have hx : notLess n l[i] = true:=by assumption
    have hp : placeI l n = i:=place_at hlt hx hn
    skip
    refine hK _ ?_
    unfold isAt
    rw [hp,List.getElem?_eq_getElem hlt]
end Gv
namespace Gv
variable [Glob] [Laid]
theorem cloneB_ca : callable Tryz.prog 126 = true:=by kernel_rfl
def cloneB_S : Spec:=fun args K=>∃ a : List UInt8,args = [.sl byteV a] ∧ a.length ≤ 1000000 ∧ K (.sl byteV a)
noncomputable def cloneB_lib : List (Nat × Spec):=[]
noncomputable def cloneB_fns : List (Nat × FnI):=[]
noncomputable def cloneB_prims : List (Nat × PSpec):=[]
theorem cloneB_E : EnvOK ⟨Tryz.prog,tys,cloneB_lib,cloneB_fns,cloneB_prims,[]⟩:=env_ok mixed0 tys0 .nil .nil .nil rfl
set_option maxHeartbeats 4000000 in
theorem cloneB_ok : Pure Tryz.prog 126 cloneB_S:=by
  refine pure_by cloneB_E 6 (fi:={fn:=Tryz.f126,hooks:=[],draws:=[]}) ⟨Tryz.func126,by kernel_rfl,by kernel_rfl⟩ ?_
  rintro _ K ⟨x,rfl,hx,hK⟩
  replace hK : ∀ p,p = .sl byteV x → K p:=fun r h=>h ▸ hK
  repeat' first | refine ⟨_,_,_,LeL.refl _,?_⟩ | (refine fun (b : Bool) hb=>?_; cases b <;> (first | exact absurd hb (by decide) | exact Bool.noConfusion (show true = false from hb) | exact Bool.noConfusion (show false = true from hb) | skip)) | refine And.intro (a:=_ ≤ 140737488355328) ?_ ?_ | refine ⟨(fun _=>rfl),?_⟩ | refine ⟨UInt8,byteV,?_⟩ | fail
  · simp
    omega
  · exact hK _ rfl
  · rename_i h
    have e:=h rfl
    subst e
    exact hK _ rfl
end Gv
namespace Gv
variable [Glob] [Laid]
theorem bytesF_ca : callable Tryz.prog 129 = true:=by kernel_rfl
def bytesF_S : Spec:=fun args K=>∃ (l : List FileS) (n : Bs),args = [.sl fileV l,.str n] ∧ (∀ f ∈ l,f.b.length ≤ 1000000) ∧ K (.sl byteV (fileAt l n))
noncomputable def bytesF_lib : List (Nat × Spec):=[(125,placeF_S),(126,cloneB_S)]
noncomputable def bytesF_fns : List (Nat × FnI):=[]
noncomputable def bytesF_prims : List (Nat × PSpec):=[]
theorem bytesF_E : EnvOK ⟨Tryz.prog,tys,bytesF_lib,bytesF_fns,bytesF_prims,[]⟩:=env_ok mixed0 tys0 (.cons placeF_ca placeF_ok (.cons cloneB_ca cloneB_ok .nil)) .nil .nil rfl
set_option maxHeartbeats 4000000 in
theorem bytesF_ok : Pure Tryz.prog 129 bytesF_S:=by
  refine pure_by bytesF_E 6 (fi:={fn:=Tryz.f129,hooks:=[],draws:=[]}) ⟨Tryz.func129,by kernel_rfl,by kernel_rfl⟩ ?_
  rintro _ K ⟨l,n,rfl,hfb,hK⟩
  replace hK : ∀ r,r = .sl byteV (fileAt l n) → K r:=fun r h=>h ▸ hK
  refine ⟨l,n,rfl,?_⟩
  obtain ⟨q,hq⟩ : ∃ q,isAt l n = q:=⟨_,rfl⟩
  rw [hq]
  cases q
  · repeat' first | (refine fun (b : Bool) hb=>?_; cases b <;> (first | exact absurd hb (by decide) | exact Bool.noConfusion (show true = false from hb) | exact Bool.noConfusion (show false = true from hb) | skip)) | fail
    refine ⟨UInt8,byteV,?_⟩
    refine hK _ ?_
    unfold isAt at hq
    unfold fileAt
    cases h : l[placeI l n]? with
    | none=>rfl
    | some f =>
      rw [h] at hq
      have : ¬ f.name = n:=of_decide_eq_false hq
      simp [this]
  · have hx : ∃ h : placeI l n < l.length, l[placeI l n].name = n := by
      unfold isAt at hq
      cases h : l[placeI l n]? with
      | none=>rw [h] at hq; cases hq
      | some f =>
        rw [h] at hq
        obtain ⟨h1,h2⟩:=List.getElem?_eq_some_iff.1 h
        exact ⟨h1,by rw [h2]; exact of_decide_eq_true hq⟩
    obtain ⟨hlt,hn⟩:=hx
    have hf : fileAt l n = l[placeI l n].b:=by
      unfold fileAt
      rw [List.getElem?_eq_getElem hlt]
      simp [hn]
    rw [hf] at hK
    repeat' first | (refine fun (b : Bool) hb=>?_; cases b <;> (first | exact absurd hb (by decide) | exact Bool.noConfusion (show true = false from hb) | exact Bool.noConfusion (show false = true from hb) | skip)) | refine ⟨_,rfl,?_,rfl,?_⟩ | fail
    · exact hlt
    refine ⟨l[placeI l n].b,rfl,hfb _ (List.getElem_mem hlt),?_⟩
    skip
    exact hK _ rfl
end Gv
namespace Gv
variable [Glob] [Laid]
theorem containsB_ca : callable Tryz.prog 180 = true:=by kernel_rfl
def containsB_S : Spec:=fun args K=>∃ (l : List UInt8) (c : UInt8),args = [.sl byteV l,byteV c] ∧ K (.bool (l.contains c))
noncomputable def containsB_lib : List (Nat × Spec):=[]
noncomputable def containsB_fns : List (Nat × FnI):=[(249,{fn:=Tryz.f249,hooks:=[],draws:=[]})]
noncomputable def containsB_prims : List (Nat × PSpec):=[]
theorem containsB_E : EnvOK ⟨Tryz.prog,tys,containsB_lib,containsB_fns,containsB_prims,[]⟩:=env_ok mixed0 tys0 .nil (.cons (by kernel_rfl) ⟨Tryz.func249,by kernel_rfl,by kernel_rfl⟩ .nil) .nil rfl
set_option maxHeartbeats 4000000 in
theorem containsB_ok : Pure Tryz.prog 180 containsB_S:=by
  refine pure_by containsB_E 6 (fi:={fn:=Tryz.f180,hooks:=[],draws:=[]}) ⟨Tryz.func180,by kernel_rfl,by kernel_rfl⟩ ?_
  rintro _ K ⟨l,c,rfl,hK⟩
  replace hK : ∀ r,r = .bool (l.contains c) → K r:=fun r h=>h ▸ hK
  refine fun (hl : _ ≤ MAXL)=>?_
  conv=>whnf
  refine loop_live [0,1,7] (σ:=Nat) (fun i=>[(8,.int .i64 i)]) (fun i=>[]) (fun i=>i ≤ l.length ∧ c ∉ l.take i) (fun i=>l.length - i) 0 ?_
  conv=>whnf
  refine ⟨(by (refine wk_sel [] rfl rfl ?_ ?_ <;> (repeat' (first | exact True.intro | exact rfl | exact Or.inl rfl | exact Or.inr rfl | refine And.intro ?_ ?_ | fail)))),⟨Nat.zero_le _,by simp⟩,fun i hi=>?_⟩
  obtain ⟨hi,hc⟩:=hi
  repeat' first | (refine fun (b : Bool) hb=>?_; cases b <;> (first | exact absurd hb (by decide) | exact Bool.noConfusion (show true = false from hb) | exact Bool.noConfusion (show false = true from hb) | skip)) | refine And.intro (a:=I64 _) ?_ ?_ | refine ⟨_,rfl,?_,rfl,?_⟩ | fail
  · refine hK _ ?_
    have e : l.take i = l:=List.take_of_length_le (by grind)
    rw [e] at hc
    simp [hc]
  · grind
  · (first | omega | (unfold I64; omega) | (simp only [List.length_append,List.length_map,List.length_cons,List.length_nil,Nat.mul_one,Int.ofNat_eq_natCast] at *; omega) | (dsimp only at *; omega) | (unfold I64; dsimp only at *; omega) | (unfold I64; grind) | grind)
  · have hi2 : i < l.length:=by grind
    refine ⟨i + 1,(by (refine wk_sel [] rfl rfl ?_ ?_ <;> (repeat' (first | exact True.intro | exact rfl | exact Or.inl rfl | exact Or.inr rfl | refine And.intro ?_ ?_ | fail)))),⟨by grind,?_⟩,by grind⟩
    rw [List.take_succ_eq_append_getElem hi2]
    simp only [List.mem_append,List.mem_singleton,not_or]
    refine ⟨hc,fun e=>?_⟩
    subst e
    simp at *
  · have hi2 : i < l.length:=by grind
    refine hK _ ?_
    have e : c = l[i]:=by
      apply UInt8.toNat_inj.1
      grind
    have h1 : l.contains c = true:=by
      rw [e]
      simp
    have h2 : decide ((0 : Int) ≤ (i : Int)) = true:=by simp
    rw [h1,h2]
end Gv
namespace Gv
variable [Glob] [Laid]
theorem index1_ca : callable Tryz.prog 266 = true:=by kernel_rfl
def index1_S : Spec:=fun args K=>∃ (l : List UInt8),args = [.sl byteV l,.sl byteV [10]] ∧ K (.int .i64 (idxB l 10))
set_option maxHeartbeats 4000000 in
theorem index1_ok : Pure Tryz.prog 266 index1_S:=by
  refine pure_look fun w m args us K hm hg hl hv hT=>?_
  obtain ⟨l,rfl,hK⟩:=hT
  obtain ⟨a,b,rfl,ha,hb⟩:=args2 hl hv
  obtain ⟨p,c,rfl,hp,hlc,hc,hx⟩:=bytes_open ha hm
  obtain ⟨p2,c2,rfl,hp2,hlc2,hc2,hx2⟩:=bytes_open hb hm
  refine ⟨_,_,hK,.int,?_⟩
  match p2,hp2,hx2 with
  | none,hp2,_=>exact absurd (hp2 rfl).1 (by simp)
  | some ⟨b2,o2,sp2⟩,_,hx2 =>
    obtain ⟨h1,h2⟩:=hx2 b2 o2 sp2 rfl
    have hs : sp2 = none:=h1.resolve_right (by simp)
    subst hs
    have h3:=h2 0 (by simp)
    have h4 : w.cell? ⟨b2,o2,none⟩ = some (.int .u8 10):=by simpa [Addr.add,numsOf] using h3
    match p,hp,hx with
    | none,hp,_ =>
      obtain ⟨rfl,rfl⟩:=hp rfl
      exact (Tryz.bytes_Index_one_nil b2 o2 c2 10 w h4).mono fun e w' ⟨he,hw⟩=>⟨by rw [he]; rfl,by subst hw; exact Bel.refl _ _⟩
    | some ⟨b1,o1,sp1⟩,_,hx =>
      refine (Tryz.bytes_Index_one_at ⟨b1,o1,sp1⟩ l.length c b2 o2 c2 (numsOf l) 10 w (numsOf_length l) (fun i hi=>(hx b1 o1 sp1 rfl).2 i hi) h4).mono fun e w' ⟨he,hw⟩=>⟨by rw [he,bytesOf_nums]; rfl,by subst hw; exact Bel.refl _ _⟩
end Gv
namespace Gv
variable [Glob] [Laid]
theorem cut_idx (l : Bs) : (cutNl l).2.2 = decide (0 ≤ idxB l 10) ∧ (0 ≤ idxB l 10 → idxB l 10 + 1 ≤ l.length ∧ (cutNl l).1 = l.take (idxB l 10).toNat ∧ (cutNl l).2.1 = l.drop ((idxB l 10).toNat + 1)) ∧ (idxB l 10 < 0 → cutNl l = (l,[],false)):=by
  unfold idxB
  rcases nl_cases l with h | ⟨a,r,rfl,ha⟩
  · have e : Lib.indexByte l 10 = -1 := by
      induction l with
      | nil=>rfl
      | cons c l ih =>
        simp only [List.mem_cons,not_or] at h
        unfold Lib.indexByte
        rw [if_neg (by simpa using fun e=>h.1 (e.symm)),ih h.2]
        rfl
    rw [e,cutNl_no h]
    refine ⟨rfl,fun h=>by omega,fun _=>rfl⟩
  · have e : Lib.indexByte (a ++ 10 :: r) 10 = a.length := by
      induction a with
      | nil=>rfl
      | cons c a ih =>
        simp only [List.mem_cons,not_or] at ha
        show Lib.indexByte (c :: (a ++ 10 :: r)) 10 = _
        unfold Lib.indexByte
        rw [if_neg (by simpa using fun e=>ha.1 (e.symm)),ih ha.2,if_neg (by simp <;> omega)]
        simp
    rw [e,cutNl_nl ha]
    refine ⟨by simp,fun _=>⟨by simp <;> omega,by simp,?_⟩,fun h=>by omega⟩
    rw [Int.toNat_natCast,show a.length + 1 = (a ++ [10]).length by simp,show a ++ 10 :: r = (a ++ [10]) ++ r by simp,List.drop_left]
theorem cut_ca : callable Tryz.prog 227 = true:=by kernel_rfl
def cut_S : Spec:=fun args K=>∃ (l : List UInt8),args = [.sl byteV l,.sl byteV [10]] ∧ l.length ≤ 1000000 ∧ K (.tup [.sl byteV (cutNl l).1,.sl byteV (cutNl l).2.1,.bool (cutNl l).2.2])
noncomputable def cut_lib : List (Nat × Spec):=[(266,index1_S)]
noncomputable def cut_fns : List (Nat × FnI):=[]
noncomputable def cut_prims : List (Nat × PSpec):=[]
theorem cut_E : EnvOK ⟨Tryz.prog,tys,cut_lib,cut_fns,cut_prims,[]⟩:=env_ok mixed0 tys0 (.cons index1_ca index1_ok .nil) .nil .nil rfl
set_option maxHeartbeats 4000000 in
theorem cut_ok : Pure Tryz.prog 227 cut_S:=by
  refine pure_by cut_E 6 (fi:={fn:=Tryz.f227,hooks:=[],draws:=[(3,[0,0,3,0,0,0,32,112,248,7,1023,2047])]}) ⟨Tryz.func227,by kernel_rfl,by kernel_rfl⟩ ?_
  rintro _ K ⟨l,rfl,hz,hK⟩
  replace hK : ∀ r,r = .tup [.sl byteV (cutNl l).1,.sl byteV (cutNl l).2.1,.bool (cutNl l).2.2] → K r:=fun r h=>h ▸ hK
  obtain ⟨h1,h2,h3⟩:=cut_idx l
  refine ⟨l,rfl,?_⟩
  repeat' first | (refine fun (b : Bool) hb=>?_; cases b <;> (first | exact absurd hb (by decide) | exact Bool.noConfusion (show true = false from hb) | exact Bool.noConfusion (show false = true from hb) | skip)) | refine ⟨_,⟨rfl,rfl⟩,?_⟩ | refine ⟨UInt8,byteV,?_⟩ | fail
  · refine hK _ ?_
    rw [h3 (by grind)]
  have hi : 0 ≤ idxB l 10:=by grind
  obtain ⟨g1,g2,g3⟩:=h2 hi
  refine ⟨_,⟨fun _=>rfl,(idxB l 10).toNat,by omega,by omega,rfl,rfl⟩,?_⟩
  repeat' first | refine ⟨_,⟨rfl,rfl⟩,?_⟩ | refine ⟨_,And.intro (a:=I64 _) ?_ ⟨rfl,rfl⟩,?_⟩ | refine ⟨_,(fun _=>⟨rfl,rfl⟩),?_⟩ | fail
  · simp only [List.length_cons,List.length_nil]
    unfold I64
    omega
  refine ⟨_,⟨fun _=>rfl,(idxB l 10).toNat + 1,?_,by omega,rfl,rfl⟩,?_⟩
  · simp only [List.length_cons,List.length_nil]
    omega
  repeat' first | refine ⟨_,⟨rfl,rfl⟩,?_⟩ | fail
  refine hK _ ?_
  rw [g2,g3,h1,decide_eq_true hi]
end Gv
namespace Gv
variable [Glob] [Laid]
theorem of_ca : callable Tryz.prog 158 = true:=by kernel_rfl
def of_S : Spec:=fun args K=>∃ (b : Bs),args = [.sl byteV b] ∧ b.length ≤ 1000000 ∧ K (.sl strV (linesOf b))
noncomputable def of_lib : List (Nat × Spec):=[(227,cut_S)]
noncomputable def of_fns : List (Nat × FnI):=[]
noncomputable def of_prims : List (Nat × PSpec):=[]
theorem of_E : EnvOK ⟨Tryz.prog,tys,of_lib,of_fns,of_prims,[]⟩:=env_ok mixed0 tys0 (.cons cut_ca cut_ok .nil) .nil .nil rfl
set_option maxHeartbeats 4000000 in
theorem of_ok : Pure Tryz.prog 158 of_S:=by
  refine pure_by of_E 6 (fi:={fn:=Tryz.f158,hooks:=[],draws:=[]}) ⟨Tryz.func158,by kernel_rfl,by kernel_rfl⟩ ?_
  rintro _ K ⟨b0,rfl,hz,hK⟩
  conv=>whnf
  refine loop_live [] (σ:=List Bs × Bs) (fun s=>[(3,.own 0),(0,.sl byteV s.2)]) (fun s=>[.row 1 (s.1.map strV)]) (fun s=>s.1 ++ linesOf s.2 = linesOf b0 ∧ s.2.length + s.1.length ≤ 1000000) (fun s=>s.2.length) ([],b0) ?_
  conv=>whnf
  refine ⟨(by (refine wk_sel [none] rfl rfl ?_ ?_ <;> (repeat' (first | exact True.intro | exact rfl | exact Or.inl rfl | exact Or.inr rfl | refine And.intro ?_ ?_ | fail)))),⟨rfl,hz⟩,fun s hs=>?_⟩
  obtain ⟨l,b⟩:=s
  obtain ⟨h1,h2⟩:=hs
  replace h1 : l ++ linesOf b = linesOf b0:=h1
  replace h2 : b.length + l.length ≤ 1000000:=h2
  repeat' first | refine ⟨_,_,_,LeL.refl _,?_⟩ | (refine fun (b : Bool) hb=>?_; cases b <;> (first | exact absurd hb (by decide) | exact Bool.noConfusion (show true = false from hb) | exact Bool.noConfusion (show false = true from hb) | skip)) | (refine fun (hl : _ ≤ MAXL)=>?_) | fail
  · have : b = [] := by
      have h : decide (0 < (b.length : Int)) = false:=by assumption
      cases b with
      | nil=>rfl
      | cons c b=>simp at h <;> omega
    subst this
    rw [linesOf_nil,List.append_nil] at h1
    rw [h1]
    exact hK
  have hb0 : b ≠ []:=by
    intro e
    subst e
    have h : decide ((0 : Int) < (([] : Bs).length : Int)) = true:=by assumption
    simp at h
  have g1:=linesOf_cut hb0
  have g2:=cut_len hb0
  refine ⟨UInt8,byteV,[10],LeL.refl _,?_⟩
  refine ⟨b,rfl,by omega,?_⟩
  repeat' first | refine And.intro (a:=_ ≤ 140737488355328) ?_ ?_ | refine ⟨_,(fun _=>rfl),rfl,?_⟩ | refine ⟨rfl,?_⟩ | fail
  · simp only [List.length_map,List.length_cons,List.length_nil]
    have:=List.length_pos_iff.2 hb0
    omega
  · refine ⟨(l ++ [(cutNl b).1],(cutNl b).2.1),?_,⟨?_,?_⟩,g2.1⟩
    · refine wk_sel [some 3] rfl rfl ⟨?_,trivial⟩ ?_
      · rw [List.map_append]
        exact rfl
      · (repeat' (first | exact True.intro | exact rfl | exact Or.inl rfl | exact Or.inr rfl | refine And.intro ?_ ?_ | fail))
    · rw [← h1,g1,List.append_assoc]
      rfl
    · simp only [List.length_append,List.length_cons,List.length_nil]
      omega
end Gv
namespace Gv
variable [Glob] [Laid]
theorem linesL_ca : callable Tryz.prog 123 = true:=by kernel_rfl
def linesL_S : Spec:=fun args K=>∃ (b : Bs),args = [.sl byteV b] ∧ b.length ≤ 1000000 ∧ K (.sl strV (linesOf b))
noncomputable def linesL_lib : List (Nat × Spec):=[(158,of_S)]
noncomputable def linesL_fns : List (Nat × FnI):=[]
noncomputable def linesL_prims : List (Nat × PSpec):=[]
theorem linesL_E : EnvOK ⟨Tryz.prog,tys,linesL_lib,linesL_fns,linesL_prims,[]⟩:=env_ok mixed0 tys0 (.cons of_ca of_ok .nil) .nil .nil rfl
set_option maxHeartbeats 4000000 in
theorem linesL_ok : Pure Tryz.prog 123 linesL_S:=by
  refine pure_by linesL_E 6 (fi:={fn:=Tryz.f123,hooks:=[],draws:=[]}) ⟨Tryz.func123,by kernel_rfl,by kernel_rfl⟩ ?_
  rintro _ K ⟨b,rfl,hz,hK⟩
  replace hK : ∀ r,r = .sl strV (linesOf b) → K r:=fun r h=>h ▸ hK
  repeat' (first | exact True.intro | refine ⟨_,LeL.refl _,?_⟩ | refine ⟨_,_,_,LeL.refl _,?_⟩ | (refine fun (b : Bool) hb=>?_; cases b <;> (first | exact absurd hb (by decide) | exact Bool.noConfusion (show true = false from hb) | exact Bool.noConfusion (show false = true from hb) | skip)) | (refine fun (hl : _ ≤ MAXL)=>?_) | refine And.intro (a:=I64 _) ?_ ?_ | refine And.intro (a:=_ ≤ 140737488355328) ?_ ?_ | refine ⟨_,⟨rfl,rfl⟩,?_⟩ | refine ⟨_,And.intro (a:=I64 _) ?_ ⟨rfl,rfl⟩,?_⟩ | refine ⟨_,_,⟨rfl,rfl⟩,?_⟩ | refine ⟨_,(fun _=>⟨rfl,rfl⟩),?_⟩ | refine And.intro (a:=chkPend _ _ _ _ _ _) ?_ ?_ | refine And.intro (a:=chkPast _ _ _ _ _ _ _ _) ?_ ?_ | refine ⟨⟨rfl,rfl⟩,?_⟩ | refine And.intro (And.intro rfl rfl) ?_ | refine ⟨True.intro,?_⟩ | refine ⟨_,⟨_,rfl,?_,rfl,rfl,rfl⟩,?_⟩ | refine ⟨_,rfl,?_,rfl,?_⟩ | refine ⟨_,(fun _=>rfl),rfl,?_⟩ | refine ⟨(fun _=>rfl),?_⟩ | refine ⟨rfl,?_⟩ | refine Opt.a ?_ | fail)
  refine ⟨b,rfl,hz,?_⟩
  repeat' (first | exact True.intro | refine ⟨_,LeL.refl _,?_⟩ | refine ⟨_,_,_,LeL.refl _,?_⟩ | (refine fun (b : Bool) hb=>?_; cases b <;> (first | exact absurd hb (by decide) | exact Bool.noConfusion (show true = false from hb) | exact Bool.noConfusion (show false = true from hb) | skip)) | (refine fun (hl : _ ≤ MAXL)=>?_) | refine And.intro (a:=I64 _) ?_ ?_ | refine And.intro (a:=_ ≤ 140737488355328) ?_ ?_ | refine ⟨_,⟨rfl,rfl⟩,?_⟩ | refine ⟨_,And.intro (a:=I64 _) ?_ ⟨rfl,rfl⟩,?_⟩ | refine ⟨_,_,⟨rfl,rfl⟩,?_⟩ | refine ⟨_,(fun _=>⟨rfl,rfl⟩),?_⟩ | refine And.intro (a:=chkPend _ _ _ _ _ _) ?_ ?_ | refine And.intro (a:=chkPast _ _ _ _ _ _ _ _) ?_ ?_ | refine ⟨⟨rfl,rfl⟩,?_⟩ | refine And.intro (And.intro rfl rfl) ?_ | refine ⟨True.intro,?_⟩ | refine ⟨_,⟨_,rfl,?_,rfl,rfl,rfl⟩,?_⟩ | refine ⟨_,rfl,?_,rfl,?_⟩ | refine ⟨_,(fun _=>rfl),rfl,?_⟩ | refine ⟨(fun _=>rfl),?_⟩ | refine ⟨rfl,?_⟩ | refine Opt.a ?_ | fail)
  exact hK _ rfl
end Gv
namespace Gv
variable [Glob] [Laid]
theorem put_ca : callable Tryz.prog 97 = true:=by kernel_rfl
def put_S : Spec:=fun args K=>∃ l : List Bs,args = [.sl strV l] ∧ (put l).length ≤ 1000000 ∧ K (.sl byteV (put l))
noncomputable def put_lib : List (Nat × Spec):=[]
noncomputable def put_fns : List (Nat × FnI):=[]
noncomputable def put_prims : List (Nat × PSpec):=[]
theorem put_E : EnvOK ⟨Tryz.prog,tys,put_lib,put_fns,put_prims,[]⟩:=env_ok mixed0 tys0 .nil .nil .nil rfl
set_option maxHeartbeats 4000000 in
theorem put_ok : Pure Tryz.prog 97 put_S:=by
  refine pure_by put_E 6 (fi:={fn:=Tryz.f97,hooks:=[],draws:=[]}) ⟨Tryz.func97,by kernel_rfl,by kernel_rfl⟩ ?_
  rintro _ K ⟨l,rfl,hb,hK⟩
  refine fun (hl : _ ≤ MAXL)=>?_
  conv=>whnf
  refine loop_live [6,7] (σ:=Nat) (fun i=>[(3,.own 0),(8,.int .i64 i)]) (fun i=>[.row 1 ((put (l.take i)).map byteV)]) (fun i=>i ≤ l.length) (fun i=>l.length - i) 0 ?_
  conv=>whnf
  refine ⟨(by (refine wk_sel [none] rfl rfl ?_ ?_ <;> (repeat' (first | exact True.intro | exact rfl | exact Or.inl rfl | exact Or.inr rfl | refine And.intro ?_ ?_ | fail)))),Nat.zero_le _,fun i hi=>?_⟩
  have h1:=put_take_le l i
  have h2:=put_take_le l (i + 1)
  repeat' first | refine ⟨_,_,_,LeL.refl _,?_⟩ | (refine fun (b : Bool) hb=>?_; cases b <;> (first | exact absurd hb (by decide) | exact Bool.noConfusion (show true = false from hb) | exact Bool.noConfusion (show false = true from hb) | skip)) | refine And.intro (a:=I64 _) ?_ ?_ | refine And.intro (a:=_ ≤ 140737488355328) ?_ ?_ | refine ⟨_,rfl,?_,rfl,?_⟩ | refine ⟨rfl,?_⟩ | fail
  · rw [List.take_of_length_le (by grind)]
    exact hK
  · grind
  · rw [put_take_succ (by grind)] at h2
    simp only [List.length_append,List.length_map,List.length_cons,List.length_nil,Nat.mul_one] at *
    omega
  · rw [put_take_succ (by grind)] at h2
    simp only [List.length_append,List.length_map,List.length_cons,List.length_nil,Nat.mul_one] at *
    omega
  · (first | omega | (unfold I64; omega) | (simp only [List.length_append,List.length_map,List.length_cons,List.length_nil,Nat.mul_one,Int.ofNat_eq_natCast] at *; omega) | (dsimp only at *; omega) | (unfold I64; dsimp only at *; omega) | (unfold I64; grind) | grind)
  · refine ⟨i + 1,?_,by grind,by grind⟩
    refine wk_sel [some 3] rfl rfl ⟨?_,trivial⟩ ?_
    · rw [put_take_succ (by grind),List.map_append,List.map_append,← List.append_assoc]
      exact rfl
    · (repeat' (first | exact True.intro | exact rfl | exact Or.inl rfl | exact Or.inr rfl | refine And.intro ?_ ?_ | fail))
end Gv
namespace Gv
variable [Glob] [Laid]
theorem gather_ca : callable Tryz.prog 85 = true:=by kernel_rfl
def gather_S : Spec:=fun args K=>∃ (l : List FileS) (f : List Bs),args = [.sl fileV l,.sl strV f] ∧ K (.tup [.sl byteV (gatherS l f).1,.int .i64 (gatherS l f).2])
noncomputable def gather_lib : List (Nat × Spec):=[(89,cfiles_S),(129,bytesF_S),(123,linesL_S),(97,put_S)]
noncomputable def gather_fns : List (Nat × FnI):=[]
noncomputable def gather_prims : List (Nat × PSpec):=[]
theorem gather_E : EnvOK ⟨Tryz.prog,tys,gather_lib,gather_fns,gather_prims,[]⟩:=env_ok mixed0 tys0 (.cons cfiles_ca cfiles_ok (.cons bytesF_ca bytesF_ok (.cons linesL_ca linesL_ok (.cons put_ca put_ok .nil)))) .nil .nil rfl
set_option maxHeartbeats 8000000 in
theorem gather_ok : Pure Tryz.prog 85 gather_S:=by
  refine pure_by gather_E 6 (fi:={fn:=Tryz.f85,hooks:=[],draws:=[]}) ⟨Tryz.func85,by kernel_rfl,by kernel_rfl⟩ ?_
  rintro _ K ⟨l,f,rfl,hK⟩
  replace hK : ∀ r,r = .tup [.sl byteV (gatherS l f).1,.int .i64 (gatherS l f).2] → K r:=fun r h=>h ▸ hK
  have hone : ∀ r : Bs × Int,gatherS l f = r → K (.tup [.sl byteV r.1,.int .i64 r.2]):=fun r h=>hK _ (by rw [h])
  unfold gatherS at hone
  refine ⟨l,rfl,?_⟩
  obtain ⟨e,he⟩ : ∃ e,checkFiles l = e:=⟨_,rfl⟩
  rw [he] at hone ⊢
  repeat' first | (refine fun (b : Bool) hb=>?_; cases b <;> (first | exact absurd hb (by decide) | exact Bool.noConfusion (show true = false from hb) | exact Bool.noConfusion (show false = true from hb) | skip)) | (refine fun (hl : _ ≤ MAXL)=>?_) | fail
  · have h0 : e = 0 := by
      have h : (!decide (e = 0)) = false:=by assumption
      simpa using h
    subst h0
    have hf4 : ¬ (4 : Int) < (f.length : Int):=of_decide_eq_false (by assumption)
    rw [if_neg (by simp),if_neg (by omega)] at hone
    have hfb:=(checkFiles_ok he).2
    have hwl : ∀ s,(whole (fileAt l s)).length ≤ 4001:=fun s=>by
      have h1:=fileAt_len (fun f hf=>(hfb f hf).2) s
      have h2:=whole_len (fileAt l s)
      omega
    skip
    conv=>whnf
    refine loop_live [0,19,20] (σ:=Nat × Bs) (fun s=>[(21,.int .i64 s.1),(7,.own 0)]) (fun s=>[.row 1 (s.2.map byteV)]) (fun s=>s.1 ≤ f.length ∧ gatherGo l s.2 (f.drop s.1) = gatherGo l [] f ∧ s.2.length ≤ 4000) (fun s=>f.length - s.1) (0,[]) ?_
    conv=>whnf
    refine ⟨(by (refine wk_auto ?_; refine Sel4.mk rfl rfl ?_ ?_ <;> (repeat' (first | exact True.intro | exact rfl | exact Or.inl rfl | exact Or.inr rfl | refine And.intro ?_ ?_ | fail)))),⟨Nat.zero_le _,rfl,by simp⟩,fun s hs=>?_⟩
    obtain ⟨i,out⟩:=s
    obtain ⟨hi,hg,ho⟩:=hs
    dsimp only at hi hg ho
    repeat' first | refine ⟨_,_,_,LeL.refl _,?_⟩ | (refine fun (b : Bool) hb=>?_; cases b <;> (first | exact absurd hb (by decide) | exact Bool.noConfusion (show true = false from hb) | exact Bool.noConfusion (show false = true from hb) | skip)) | refine ⟨_,rfl,?_,rfl,?_⟩ | fail
    · have hge : ¬ (i : Int) < (f.length : Int):=of_decide_eq_false (by assumption)
      have e : f.drop i = []:=List.drop_eq_nil_of_le (by omega)
      rw [e] at hg
      conv=>whnf
      exact hone _ hg.symm
    · have h:=of_decide_eq_true (by assumption : decide ((i : Int) < (f.length : Int)) = true)
      show i < f.length
      omega
    have hlt : i < f.length:=by
      have h:=of_decide_eq_true (by assumption : decide ((i : Int) < (f.length : Int)) = true)
      omega
    rw [List.drop_eq_getElem_cons hlt,gatherGo] at hg
    have hw:=hwl f[i]
    refine ⟨l,f[i],rfl,fun g hgm=>by have:=(hfb g hgm).2; omega,?_⟩
    refine ⟨fileAt l f[i],rfl,by have:=fileAt_len (fun f hf=>(hfb f hf).2) f[i]; omega,?_⟩
    refine ⟨linesOf (fileAt l f[i]),rfl,by unfold whole at hw; omega,?_⟩
    have hwe : put (linesOf (fileAt l f[i])) = whole (fileAt l f[i]):=rfl
    have hom : ((out.map byteV).length : Int) = (out.length : Int):=by rw [List.length_map]
    repeat' first | (refine fun (b : Bool) hb=>?_; cases b <;> (first | exact absurd hb (by decide) | exact Bool.noConfusion (show true = false from hb) | exact Bool.noConfusion (show false = true from hb) | skip)) | (refine fun (hl : _ ≤ MAXL)=>?_) | refine And.intro (a:=I64 _) ?_ ?_ | refine And.intro (a:=_ ≤ 140737488355328) ?_ ?_ | refine ⟨(fun _=>rfl),?_⟩ | fail
    · show I64 (4000 - ((out.map byteV).length : Int))
      rw [hom]
      unfold I64; omega
    · show ((out.map byteV).length + ((put (linesOf (fileAt l f[i]))).map byteV).length) * 1 ≤ 140737488355328
      rw [List.length_map,List.length_map,hwe]
      omega
    · unfold I64
      dsimp only
      omega
    · have h : ¬ ((4000 : Int) - ((out.map byteV).length : Int) < ((put (linesOf (fileAt l f[i]))).length : Int)):=of_decide_eq_false (by assumption)
      rw [hom,hwe] at h
      rw [if_neg (by omega)] at hg
      refine ⟨(i + 1,out ++ whole (fileAt l f[i])),?_,⟨hlt,hg,by show (out ++ _).length ≤ 4000; rw [List.length_append]; omega⟩,by show f.length - (i + 1) < f.length - i; omega⟩
      (refine wk_auto ?_; refine Sel4.mk rfl rfl ?_ ?_ <;> (repeat' (first | exact True.intro | exact rfl | exact Or.inl rfl | exact Or.inr rfl | refine And.intro ?_ ?_ | fail)))
      show Row.row 1 _ = Row.row 1 _
      rw [List.map_append]
      rfl
    · have h : ((4000 : Int) - ((out.map byteV).length : Int) < ((put (linesOf (fileAt l f[i]))).length : Int)):=of_decide_eq_true (by assumption)
      rw [hom,hwe] at h
      rw [if_pos (by omega)] at hg
      skip
      refine ⟨_,byteV,hone _ hg.symm⟩
  · have h0 : e = 0 := by
      have h : (!decide (e = 0)) = false:=by assumption
      simpa using h
    subst h0
    have hf4 : (4 : Int) < (f.length : Int):=of_decide_eq_true (by assumption)
    rw [if_neg (by simp),if_pos (by omega)] at hone
    skip
    exact ⟨_,byteV,hone _ rfl⟩
  · have h0 : ¬ e = 0 := by
      have h : (!decide (e = 0)) = true:=by assumption
      simpa using h
    rw [if_pos h0] at hone
    skip
    exact ⟨_,byteV,hone _ rfl⟩
end Gv
namespace Gv
variable [Glob] [Laid]
theorem containsS_ca : callable Tryz.prog 104 = true:=by kernel_rfl
def containsS_S : Spec:=fun args K=>∃ (s sub : Bs),args = [.str s,.str sub] ∧ s.length < 4294967281 ∧ K (.bool (Lib.contains s sub))
set_option maxHeartbeats 4000000 in
theorem containsS_ok : Pure Tryz.prog 104 containsS_S:=by
  intro w m args us K hm hg hv hT
  obtain ⟨s,sub,rfl,h1,hK⟩:=hT
  obtain ⟨a,b,rfl,ha,hb⟩:=args2 hv.1 hv.2
  obtain ⟨rfl,-⟩:=vr_str ha
  obtain ⟨rfl,-⟩:=vr_str hb
  obtain ⟨n,hn⟩:=Laid.maxlen w (fun b o e=>hm b o (hg b o e))
  refine (Tryz.strings_Contains (ba s) (ba sub) n w (by rw [ba_size]; exact h1) hn).mono fun e w' ⟨he,hw⟩=>?_
  subst hw
  exact ⟨_,_,he,Bel.refl _ _,hK,.bool⟩
end Gv
namespace Gv
variable [Glob] [Laid]
theorem replaceS_ca : callable Tryz.prog 229 = true:=by kernel_rfl
def replaceS_S : Spec:=fun args K=>∃ (s old new : Bs),args = [.str s,.str old,.str new] ∧ (s.length < 4294967281 ∧ 1 ≤ old.length ∧ s.length + Lib.count s old * new.length ≤ 140737488355328 ∧ (Lib.replaceAll s old new).length ≤ MAXL) ∧ K (.str (Lib.replaceAll s old new))
set_option maxHeartbeats 4000000 in
theorem replaceS_ok : Pure Tryz.prog 229 replaceS_S:=by
  intro w m args us K hm hg hv hT
  obtain ⟨s,old,new,rfl,⟨h1,h2,h3,h4⟩,hK⟩:=hT
  obtain ⟨a,b,c,rfl,ha,hb,hc⟩:=args3 hv.1 hv.2
  obtain ⟨rfl,-⟩:=vr_str ha
  obtain ⟨rfl,-⟩:=vr_str hb
  obtain ⟨rfl,-⟩:=vr_str hc
  obtain ⟨n,hn⟩:=Laid.maxlen w (fun b o e=>hm b o (hg b o e))
  refine (Tryz.strings_ReplaceAll (ba s) (ba old) (ba new) n w (by rw [ba_size]; exact h1) hn (by rw [ba_size]; exact h2) (by rw [ba_size,ba_size]; exact h3)).mono fun e w' ⟨he,hw⟩=>?_
  exact ⟨_,_,he,Bel.of_below hw,hK,.str h4⟩
end Gv
namespace Gv
variable [Glob] [Laid]
theorem splitS_ca : callable Tryz.prog 105 = true:=by kernel_rfl
def splitS_S : Spec:=fun args K=>∃ (s sep : Bs),args = [.str s,.str sep] ∧ (s.length < 4294967281 ∧ 1 ≤ sep.length) ∧ K (.sl strV (Lib.split s sep))
set_option maxHeartbeats 4000000 in
theorem splitS_ok : Pure Tryz.prog 105 splitS_S:=by
  intro w m args us K hm hg hv hT
  obtain ⟨s,sep,rfl,⟨h1,h2⟩,hK⟩:=hT
  obtain ⟨a,b,rfl,ha,hb⟩:=args2 hv.1 hv.2
  obtain ⟨rfl,-⟩:=vr_str ha
  obtain ⟨rfl,-⟩:=vr_str hb
  obtain ⟨n,hn⟩:=Laid.maxlen w (fun b o e=>hm b o (hg b o e))
  refine (Tryz.strings_Split (ba s) (ba sep) n w (by rw [ba_size]; exact h1) hn (by rw [ba_size]; exact h2)).mono fun e w' ⟨he,hw⟩=>?_
  subst hw
  rw [split_cells] at *
  have hc : Lib.countB (ba s) (ba sep) + 1 = (Lib.split s sep).length:=(split_len s sep h2).symm
  have hle : (Lib.split s sep).length ≤ s.length + 2:=by
    rw [← hc]
    have:=Lib.count_le s sep
    show Lib.count s sep + 1 ≤ _
    omega
  refine ⟨_,_,by rw [he,hc],Bel.alloc [] w _,hK,strs_new (Gw.heap_alloc_new w _) (by unfold MAXL; omega) fun x hx=>?_⟩
  have:=splitK_le sep _ s x hx
  unfold MAXL
  omega
end Gv
namespace Gv
variable [Glob] [Laid]
def swp (l : Bs) (i : Nat) : Bs:=(List.range l.length).map fun k=>if k < i ∨ l.length - 1 - k < i then l.getD (l.length - 1 - k) 0 else l.getD k 0
theorem swp_len (l : Bs) (i : Nat) : (swp l i).length = l.length:=by simp [swp]
theorem swp_0 (l : Bs) : swp l 0 = l:=by
  refine List.ext_getElem (by simp [swp]) fun i h1 h2=>?_
  simp [swp,h2]
theorem swp_end (l : Bs) (i : Nat) (h : l.length ≤ 2 * i + 1) : swp l i = l.reverse:=by
  refine List.ext_getElem (by simp [swp]) fun k h1 h2=>?_
  have hk : k < l.length:=by simpa using h2
  simp only [swp,List.getElem_map,List.getElem_range,List.getElem_reverse]
  by_cases hc : k < i ∨ l.length - 1 - k < i
  · rw [if_pos hc,List.getD_eq_getElem?_getD,List.getElem?_eq_getElem (by omega)]
    rfl
  · rw [if_neg hc,List.getD_eq_getElem?_getD,List.getElem?_eq_getElem hk]
    have e : l.length - 1 - k = k:=by omega
    simp only [e]
    rfl
theorem swp_next (l : Bs) (i : Nat) (h : 2 * i + 1 < l.length) : ((swp l i).set i (l.getD (l.length - 1 - i) 0)).set (l.length - 1 - i) (l.getD i 0) = swp l (i + 1):=by
  refine List.ext_getElem (by simp [swp]) fun k h1 h2=>?_
  have hk : k < l.length:=by simpa [swp] using h2
  rw [List.getElem_set,List.getElem_set]
  simp only [swp,List.getElem_map,List.getElem_range]
  by_cases e1 : l.length - 1 - i = k
  · rw [if_pos e1,if_pos (by omega)]
    have : l.length - 1 - k = i:=by omega
    rw [this]
  · rw [if_neg e1]
    by_cases e2 : i = k
    · rw [if_pos e2,if_pos (by omega),e2]
    · rw [if_neg e2]
      by_cases hc : k < i ∨ l.length - 1 - k < i
      · rw [if_pos hc,if_pos (by omega)]
      · rw [if_neg hc,if_neg (by omega)]
theorem swp_at (l : Bs) (i k : Nat) (hk : k < l.length) (h : ¬ (k < i ∨ l.length - 1 - k < i)) : (swp l i)[k]? = some (l.getD k 0):=by
  unfold swp
  rw [List.getElem?_map,List.getElem?_range hk]
  simp only [Option.map_some]
  rw [if_neg h]
theorem revB_ca : callable Tryz.prog 230 = true:=by kernel_rfl
def revB_P : PSpec:=fun args rows K=>∃ (l : Bs),args = [.own 0] ∧ rows = [.row 1 (l.map byteV)] ∧ l.length ≤ 1000000 ∧ K (.tup []) [.row 1 (l.reverse.map byteV)]
noncomputable def revB_lib : List (Nat × Spec):=[]
noncomputable def revB_fns : List (Nat × FnI):=[]
noncomputable def revB_prims : List (Nat × PSpec):=[]
theorem revB_E : EnvOK ⟨Tryz.prog,tys,revB_lib,revB_fns,revB_prims,[]⟩:=env_ok mixed0 tys0 .nil .nil .nil rfl
set_option maxHeartbeats 4000000 in
theorem revB_prim : PrimOK Tryz.prog 230 revB_P:=by
  refine prim_by revB_E 6 revB_ca (fi:={fn:=Tryz.f230,hooks:=[],draws:=[(3,[0,0,0,0,0,0,48,112,0,0,768,1792,4083,8179,16383,32767])]}) ⟨Tryz.func230,by kernel_rfl,by kernel_rfl⟩ ?_
  rintro args rows K ⟨l,rfl,rfl,hz,hK⟩
  repeat' first | (refine fun (hl : _ ≤ MAXL)=>?_) | refine And.intro (a:=I64 _) ?_ ?_ | fail
  · (first | omega | (unfold I64; omega) | (simp only [List.length_append,List.length_map,List.length_cons,List.length_nil,Nat.mul_one,Int.ofNat_eq_natCast] at *; omega) | (dsimp only at *; omega) | (unfold I64; dsimp only at *; omega) | (unfold I64; grind) | grind)
  conv=>whnf
  refine loop_live [0] (σ:=Nat × Int × Bs) (fun s=>[(2,.int .i64 s.1),(3,.int .i64 s.2.1)]) (fun s=>[.row 1 (s.2.2.map byteV)]) (fun s=>s.2.1 = (l.length : Int) - 1 - s.1 ∧ s.2.2 = swp l s.1 ∧ 2 * s.1 ≤ l.length + 1) (fun s=>l.length + 1 - s.1) (0,((l.map byteV).length : Int) - 1,l) ?_
  conv=>whnf
  refine ⟨(by (refine wk_auto ?_; refine Sel4.mk rfl rfl ?_ ?_ <;> (repeat' (first | exact True.intro | exact rfl | exact Or.inl rfl | exact Or.inr rfl | refine And.intro ?_ ?_ | fail)))),⟨by simp,(swp_0 l).symm,by omega⟩,fun s hs=>?_⟩
  obtain ⟨i,j,d⟩:=s
  obtain ⟨hj,hd,hi⟩:=hs
  dsimp only at hj hd hi
  have hdl : d.length = l.length:=by rw [hd,swp_len]
  repeat' first | (refine fun (b : Bool) hb=>?_; cases b <;> (first | exact absurd hb (by decide) | exact Bool.noConfusion (show true = false from hb) | exact Bool.noConfusion (show false = true from hb) | skip)) | refine ⟨_,⟨rfl,rfl⟩,?_⟩ | fail
  · have hij : ¬ (i : Int) < j:=of_decide_eq_false (by assumption)
    have : d = l.reverse:=by rw [hd,swp_end _ _ (by omega)]
    rw [this]
    conv=>whnf
    exact hK
  have hij : (i : Int) < j:=of_decide_eq_true (by assumption)
  obtain ⟨k,hk⟩ : ∃ k : Nat,j = k:=⟨j.toNat,by omega⟩
  subst hk
  have hkl : k < d.length:=by omega
  have hil : i < d.length:=by omega
  have gk : (List.map byteV d)[k]? = some (byteV d[k]):=by rw [List.getElem?_map,List.getElem?_eq_getElem hkl]; rfl
  have gi : (List.map byteV d)[i]? = some (byteV d[i]):=by rw [List.getElem?_map,List.getElem?_eq_getElem hil]; rfl
  refine ⟨_,⟨rfl,k,rfl,by simpa using hkl,⟨rfl,rfl⟩⟩,?_⟩
  repeat' first | exact True.intro | refine And.intro (a:=chkPast _ _ _ _ _ _ _ _) ?_ ?_ | fail
  conv=>whnf
  refine ⟨_,⟨_,gk,⟨rfl,rfl⟩⟩,?_⟩
  repeat' first | exact True.intro | refine ⟨_,⟨rfl,rfl⟩,?_⟩ | refine And.intro (a:=chkPast _ _ _ _ _ _ _ _) ?_ ?_ | fail
  conv=>whnf
  refine ⟨_,⟨rfl,i,rfl,by simpa using hil,⟨rfl,rfl⟩⟩,?_⟩
  repeat' first | exact True.intro | refine And.intro (a:=chkPast _ _ _ _ _ _ _ _) ?_ ?_ | fail
  conv=>whnf
  refine ⟨_,⟨_,gi,⟨rfl,rfl⟩⟩,?_⟩
  repeat' first | exact True.intro | refine And.intro (a:=chkPast _ _ _ _ _ _ _ _) ?_ ?_ | fail
  conv=>whnf
  refine ⟨_,⟨rfl,i,rfl,by simpa using hil,⟨rfl,rfl⟩⟩,?_⟩
  repeat' first | exact True.intro | refine And.intro (a:=chkPast _ _ _ _ _ _ _ _) ?_ ?_ | fail
  refine ⟨_,_,⟨by simpa using hil,rfl,rfl⟩,?_⟩
  repeat' first | exact True.intro | refine And.intro (a:=chkPend _ _ _ _ _ _) ?_ ?_ | fail
  conv=>whnf
  refine ⟨_,⟨rfl,k,rfl,by simpa using hkl,⟨rfl,rfl⟩⟩,?_⟩
  repeat' first | exact True.intro | refine And.intro (a:=chkPast _ _ _ _ _ _ _ _) ?_ ?_ | fail
  conv=>whnf
  refine ⟨_,_,⟨by simpa using hkl,rfl,rfl⟩,?_⟩
  repeat' first | exact True.intro | refine And.intro (a:=I64 _) ?_ ?_ | refine And.intro (a:=chkPend _ _ _ _ _ _) ?_ ?_ | fail
  · unfold I64
    dsimp only
    omega
  · unfold I64
    dsimp only
    omega
  have ek : k = l.length - 1 - i:=by omega
  have e1 : d[k] = l.getD k 0:=by
    have h:=swp_at l i k (by omega) (by omega)
    rw [← hd,List.getElem?_eq_getElem hkl] at h
    exact Option.some.inj h
  have e2 : d[i] = l.getD i 0:=by
    have h:=swp_at l i i (by omega) (by omega)
    rw [← hd,List.getElem?_eq_getElem hil] at h
    exact Option.some.inj h
  refine ⟨(i + 1,(k : Int) - 1,(d.set i d[k]).set k d[i]),?_,⟨?_,?_,?_⟩,?_⟩
  rotate_left
  · show (k : Int) - 1 = (l.length : Int) - 1 - ((i + 1 : Nat) : Int)
    omega
  · show (d.set i d[k]).set k d[i] = swp l (i + 1)
    rw [e1,e2,hd,ek]
    exact swp_next l i (by omega)
  · show 2 * (i + 1) ≤ l.length + 1
    omega
  · show l.length + 1 - (i + 1) < l.length + 1 - i
    omega
  (refine wk_auto ?_; refine Sel4.mk rfl rfl ?_ ?_ <;> (repeat' (first | exact True.intro | exact rfl | exact Or.inl rfl | exact Or.inr rfl | refine And.intro ?_ ?_ | fail)))
  all_goals try (show Row.row 1 _ = Row.row 1 _)
  simp [List.map_set]
end Gv
namespace Gv
variable [Glob] [Laid]
theorem one_ca : callable Tryz.prog 161 = true:=by kernel_rfl
def one_S : Spec:=fun args K=>∃ (c : Cmd) (s : Bs),args = [cmdV c,.str s] ∧ (checkCmd c = 0 ∧ s.length ≤ 900000) ∧ K (.tup [.str (oneC c s).1,.bool (oneC c s).2])
noncomputable def one_lib : List (Nat × Spec):=[(104,containsS_S),(229,replaceS_S),(105,splitS_S)]
noncomputable def one_fns : List (Nat × FnI):=[]
noncomputable def one_prims : List (Nat × PSpec):=[(230,revB_P)]
theorem one_E : EnvOK ⟨Tryz.prog,tys,one_lib,one_fns,one_prims,[]⟩:=env_ok mixed0 tys0 (.cons containsS_ca containsS_ok (.cons replaceS_ca replaceS_ok (.cons splitS_ca splitS_ok .nil))) .nil (.cons revB_prim .nil) rfl
set_option maxHeartbeats 4000000 in
theorem one_ok : Pure Tryz.prog 161 one_S:=by
  refine pure_by one_E 6 (fi:={fn:=Tryz.f161,hooks:=[],draws:=[(7,[0,0,2,6,0,16,48,127,255,511])]}) ⟨Tryz.func161,by kernel_rfl,by kernel_rfl⟩ ?_
  rintro _ K ⟨c,s,rfl,⟨hc,hs⟩,hK⟩
  replace hK : ∀ r,r = .tup [.str (oneC c s).1,.bool (oneC c s).2] → K r:=fun r h=>h ▸ hK
  have hsw:=@splitK_sz [32] (Lib.count s [32]) s
  have hsn : 0 < (Lib.split s [32]).length:=List.length_pos_iff.2 (split_ne s [32])
  have hcn : c.kind = 4 → 1 ≤ c.n:=fun h=>by
    unfold checkCmd useN at hc
    grind
  have hcw:=@word2 c hc
  have hsl : (Lib.split s [32]).length ≤ 1000000:=by
    rw [split_len _ _ (by decide),Lib.count_one]
    have:=List.count_le_length (a:=(32 : UInt8)) (l:=s)
    omega
  have hone : ∀ r : Bs × Bool,oneC c s = r → K (.tup [.str r.1,.bool r.2]):=fun r h=>hK _ (by rw [h])
  unfold oneC at hone
  repeat' first | exact True.intro | (refine fun (b : Bool) hb=>?_; cases b <;> (first | exact absurd hb (by decide) | exact Bool.noConfusion (show true = false from hb) | exact Bool.noConfusion (show false = true from hb) | skip)) | refine And.intro (a:=_ ≤ 140737488355328) ?_ ?_ | refine ⟨_,⟨rfl,rfl⟩,?_⟩ | refine And.intro (a:=chkPast _ _ _ _ _ _ _ _) ?_ ?_ | refine Opt.b ?_ | fail
  · -- turned
    omega
  · refine ⟨s,rfl,rfl,by omega,?_⟩
    skip
    refine ⟨s.reverse,rfl,rfl,?_⟩
    skip
    have h1 : ¬ c.kind = 1:=of_decide_eq_false (by assumption)
    have h2 : ¬ c.kind = 2:=of_decide_eq_false (by assumption)
    have h3 : ¬ c.kind = 3:=of_decide_eq_false (by assumption)
    have h4 : ¬ c.kind = 4:=of_decide_eq_false (by assumption)
    rw [if_neg h1,if_neg h2,if_neg h3,if_neg h4] at hone
    exact hone _ rfl
  · -- a field
    have h4 : c.kind = 4:=of_decide_eq_true (by assumption)
    have:=hcn h4
    refine ⟨s,[32],rfl,⟨by omega,by decide⟩,?_⟩
    rw [if_neg (by omega),if_neg (by omega),if_neg (by omega),if_pos h4] at hone
    repeat' first | (refine fun (b : Bool) hb=>?_; cases b <;> (first | exact absurd hb (by decide) | exact Bool.noConfusion (show true = false from hb) | exact Bool.noConfusion (show false = true from hb) | skip)) | (refine fun (hl : _ ≤ MAXL)=>?_) | refine And.intro (a:=I64 _) ?_ ?_ | fail
    · have hle : ¬ ((Lib.split s [32]).length : Int) < c.n:=of_decide_eq_false (by assumption)
      (first | omega | (unfold I64; omega) | (simp only [List.length_append,List.length_map,List.length_cons,List.length_nil,Nat.mul_one,Int.ofNat_eq_natCast] at *; omega) | (dsimp only at *; omega) | (unfold I64; dsimp only at *; omega) | (unfold I64; grind) | grind)
    · have hle : ¬ ((Lib.split s [32]).length : Int) < c.n:=of_decide_eq_false (by assumption)
      have hlt : (c.n - 1).toNat < (Lib.split s [32]).length:=by omega
      refine ⟨(c.n - 1).toNat,by omega,hlt,rfl,?_⟩
      skip
      rw [if_neg hle] at hone
      have e : (Lib.split s [32]).getD (c.n - 1).toNat [] = (Lib.split s [32])[(c.n - 1).toNat]:=by rw [List.getD_eq_getElem?_getD,List.getElem?_eq_getElem hlt]; rfl
      rw [e] at hone
      exact hone _ rfl
    · have hle : ((Lib.split s [32]).length : Int) < c.n:=of_decide_eq_true (by assumption)
      rw [if_pos hle] at hone
      exact hone _ rfl
  · -- a byte for another
    have h3 : c.kind = 3:=of_decide_eq_true (by assumption)
    obtain ⟨x,y,hw⟩:=hcw h3
    rw [if_neg (by omega),if_neg (by omega),if_pos h3] at hone
    obtain ⟨ck,cw,cn⟩:=c
    dsimp only at hw
    subst hw
    refine ⟨_,⟨0,1,rfl,rfl,by decide,by show 1 ≤ 2; decide,rfl,rfl⟩,?_⟩
    repeat' first | exact True.intro | refine ⟨_,⟨rfl,rfl⟩,?_⟩ | refine And.intro (a:=chkPast _ _ _ _ _ _ _ _) ?_ ?_ | fail
    conv=>whnf
    refine ⟨_,⟨1,2,rfl,rfl,by decide,by show 2 ≤ 2; decide,rfl,rfl⟩,?_⟩
    skip
    have hr:=replace_one x y s
    have hl : (Lib.replaceAll s [x] [y]).length = s.length:=by rw [hr]; simp
    have hcs : Lib.count s [x] ≤ s.length:=by rw [Lib.count_one]; exact List.count_le_length
    apply Exists.intro
    apply And.intro
    · refine ⟨s,[x],[y],rfl,⟨by omega,by show 1 ≤ 1; decide,by show s.length + Lib.count s [x] * 1 ≤ _; omega,by rw [hl]; unfold MAXL; omega⟩,?_⟩
      exact ⟨rfl,rfl⟩
    repeat' first | refine ⟨_,⟨rfl,rfl⟩,?_⟩ | fail
    exact hone _ rfl
  · have h : c.kind = 2:=of_decide_eq_true (by assumption)
    refine ⟨s,c.word,rfl,by omega,?_⟩
    skip
    rw [if_neg (by omega),if_pos h] at hone
    exact hone _ rfl
  · have h : c.kind = 1:=of_decide_eq_true (by assumption)
    refine ⟨s,c.word,rfl,by omega,?_⟩
    skip
    rw [if_pos h] at hone
    exact hone _ rfl
end Gv
namespace Gv
variable [Glob] [Laid] [Nums]
theorem bel_more (w : World) (k : Nat) (os : Array Obj) : Bel [] w (Go.Sort.grow (w.drewN k) os) :=
  ⟨rfl,rfl,rfl,by rw [Go.Sort.size_grow]; exact Nat.le_add_right _ _,fun i hi _=>Go.Sort.heap_grow_old (w.drewN k) os hi⟩
theorem itoa_ca : callable Tryz.prog 107 = true:=by kernel_rfl
def itoa_S : Spec:=fun args K=>∃ (n : Int),args = [.int .i64 n] ∧ I64 n ∧ K (.str (Lib.itoa n))
set_option maxHeartbeats 4000000 in
theorem itoa_ok : Pure Tryz.prog 107 itoa_S:=by
  intro w m args us K hm hg hv hT
  obtain ⟨n,rfl,h1,hK⟩:=hT
  obtain ⟨a,rfl,ha⟩:=args1 hv.1 hv.2
  cases ha
  refine (Tryz.strconv_Itoa n h1.1 h1.2 w (Nums.pow10 w (fun b o e=>hm b o (hg b o e)))).mono fun e w' ⟨he,k,os,hw⟩=>?_
  subst hw
  have:=itoa_len n h1
  exact ⟨_,_,he,bel_more w k os,hK,.str (by unfold MAXL; omega)⟩
end Gv
namespace Gv
variable [Glob] [Laid]
theorem sortS_ca : callable Tryz.prog 159 = true:=by kernel_rfl
def sortS_P : PSpec:=fun args rows K=>(∃ (l : List Bs),args = [.own 0] ∧ rows = [.row 1 (l.map strV)] ∧ l.length < 4611686018427387904 ∧ K (.tup []) [.row 1 ((sortB l).map strV)]) ∨ (args = [.nil] ∧ rows = [] ∧ K (.tup []) [])
set_option maxHeartbeats 4000000 in
theorem sortS_prim : PrimOK Tryz.prog 159 sortS_P:=by
  intro w0 m0 args rows k R m q w us C hv hT
  rcases hT with ⟨l,rfl,rfl,hl,hK⟩ | ⟨rfl,rfl,hK⟩
  rotate_left
  · obtain ⟨u,rfl,hu⟩:=vrl_one hv
    refine ⟨sortS_ca,?_⟩
    cases hu
    refine (Tryz.slices_Sort_string_none none 0 w).mono fun e w' ⟨he,hw⟩=>?_
    subst hw
    exact ⟨_,he,_,_,_,_,_,hK,C,Mem.Le.refl m,Loc.Le.refl q,.tup (us:=[]) rfl fun i v u h=>by simp at h⟩
  obtain ⟨u,rfl,hu⟩:=vrl_one hv
  refine ⟨sortS_ca,?_⟩
  rcases own_strs C hu with ⟨rfl,rfl⟩ | ⟨b,cap,arr,T,fz,rfl,h1,h2,h3,h4,h5,h6,h7,h8⟩
  · refine (Tryz.slices_Sort_string_none none 0 w).mono fun e w' ⟨he,hw⟩=>?_
    subst hw
    have e : sortB ([] : List Bs) = []:=by simp [sortB]
    rw [e] at hK
    exact ⟨_,he,_,_,_,_,_,hK,C,Mem.Le.refl m,Loc.Le.refl q,.tup (us:=[]) rfl fun i v u h=>by simp at h⟩
  · have hblk:=C.sit.lt h4
    refine (Tryz.slices_Sort_string b 0 cap l w h7 hblk hl).mono fun e w' ⟨he,n,os,hw⟩=>?_
    obtain ⟨g1,g2⟩:=sorted_world (C.sit.own _ _ h4).2.1 hw
    have C2:=C.strs_put (l':=sortB l) h3 h4 h5 h6 h2 h1 (sortB_len l) (fun x hx=>h8 x ((sortB_perm l).mem_iff.1 hx)) g1 g2
    exact ⟨_,he,_,_,_,_,_,hK,C2,Mem.Le.refl m,Loc.Le.refl q,.tup (us:=[]) rfl fun i v u h=>by simp at h⟩
end Gv
namespace Gv
variable [Glob] [Laid]
theorem compactS_ca : callable Tryz.prog 160 = true:=by kernel_rfl
def compactS_P : PSpec:=fun args rows K=>(∃ (l : List Bs),args = [.own 0] ∧ rows = [.row 1 (l.map strV)] ∧ K (.own 1) [.dead,.row 1 ((onceB l).map strV)]) ∨ (args = [.nil] ∧ rows = [] ∧ K .nil [])
set_option maxHeartbeats 4000000 in
theorem compactS_prim : PrimOK Tryz.prog 160 compactS_P:=by
  intro w0 m0 args rows k R m q w us C hv hT
  rcases hT with ⟨l,rfl,rfl,hK⟩ | ⟨rfl,rfl,hK⟩
  rotate_left
  · obtain ⟨u,rfl,hu⟩:=vrl_one hv
    refine ⟨compactS_ca,?_⟩
    cases hu
    refine (Tryz.slices_Compact_string_empty none 0 w).mono fun e w' ⟨he,hw⟩=>?_
    subst hw
    exact ⟨_,he,_,_,_,_,_,hK,C,Mem.Le.refl m,Loc.Le.refl q,.nil⟩
  obtain ⟨u,rfl,hu⟩:=vrl_one hv
  refine ⟨compactS_ca,?_⟩
  rcases own_strs C hu with ⟨rfl,rfl⟩ | ⟨b,cap,arr,T,fz,rfl,h1,h2,h3,h4,h5,h6,h7,h8⟩
  · refine (Tryz.slices_Compact_string_empty none 0 w).mono fun e w' ⟨he,hw⟩=>?_
    subst hw
    have C1:=C.kill (r:=0) rfl
    have C2:=C1.row0 1
    refine ⟨_,he,_,_,_,_,_,hK,C2,Mem.Le.refl m,C1.le_add _,?_⟩
    exact VR.own (add_self q 1 (none,0,0,1))
  · have hw0:=(C.sit.own _ _ h4).2.1
    refine (Tryz.slices_Compact_string b 0 cap l w h7 (by unfold MAXL at h2; omega) h1).mono fun e w' ⟨he,n,hw⟩=>?_
    obtain ⟨g1,g2⟩:=sorted_world (w':=w') (n:=n) (d:=(Lib.compact l ++ List.replicate (l.length - (Lib.compact l).length) ([] : Bs)).toArray) (os:=#[]) hw0 (by rw [hw,Go.Sort.grow_empty])
    have S':=C.sit.write h4 g1 g2
    have hlen : (Lib.compact l ++ List.replicate (l.length - (Lib.compact l).length) ([] : Bs)).length ≤ cap:=by
      have:=onceB_len l
      unfold onceB at this
      simp
      omega
    have he' : ElsR m 1 ((onceB l).map strV) (Go.Sort.putCells Go.Proofs.encStr 0 (Lib.compact l ++ List.replicate (l.length - (Lib.compact l).length) ([] : Bs)).toArray arr):=fun i x hi=>by
      have hx:=els_put (m:=m) (l:=l) (l':=Lib.compact l ++ List.replicate (l.length - (Lib.compact l).length) ([] : Bs)) h5 hlen (fun x hx=>by
        rcases List.mem_append.1 hx with hx | hx
        · exact h8 x (onceB_sub l x hx)
        · rw [(List.mem_replicate.1 hx).2]; exact Nat.zero_le _)
      refine hx i x ?_
      rw [List.map_append,List.getElem?_append_left (show i < ((Lib.compact l).map strV).length from (List.getElem?_eq_some_iff.1 hi).1)]
      exact hi
    have e0 : ([Row.row 1 (l.map strV)].set 0 Row.dead ++ [.row 1 ((onceB l).map strV)]) = [.dead,.row 1 ((onceB l).map strV)]:=rfl
    have C2:=C.move (r:=0) (y:=.row 1 ((onceB l).map strV)) (n':=(onceB l).length) (c':=cap) (k':=1) rfl rfl h3 S' ⟨some b,cap,by simp [add_self],by simp; have:=onceB_len l; omega,h2,(fun h=>by cases h),fun b' e=>by
      cases e
      exact ⟨_,T,fz,by simp [Mem.put],by rw [putCells_size]; exact h5,he',noFk1 (by rw [putCells_size]; exact h6)⟩⟩
    refine ⟨_,he,_,_,_,_,_,hK,C2,Mem.Le.refl m,C.le_add _,?_⟩
    exact VR.own (add_self q 1 (some b,(onceB l).length,cap,1))
end Gv
namespace Gv
variable [Glob] [Laid] [Nums]
theorem linesC_ca : callable Tryz.prog 98 = true:=by kernel_rfl
def linesC_S : Spec:=fun args K=>∃ (c : Cmd) (l : List Bs),args = [cmdV c,.sl strV l] ∧ (checkCmd c = 0 ∧ l.length ≤ 900000 ∧ ∀ s ∈ l,s.length ≤ 900000) ∧ K (.sl strV (linesC c l))
noncomputable def linesC_lib : List (Nat × Spec):=[(161,one_S),(107,itoa_S)]
noncomputable def linesC_fns : List (Nat × FnI):=[(113,{fn:=Tryz.f113,hooks:=[],draws:=[]})]
noncomputable def linesC_prims : List (Nat × PSpec):=[(159,sortS_P),(160,compactS_P)]
theorem linesC_E : EnvOK ⟨Tryz.prog,tys,linesC_lib,linesC_fns,linesC_prims,[]⟩:=env_ok mixed0 tys0 (.cons one_ca one_ok (.cons itoa_ca itoa_ok .nil)) (.cons (by kernel_rfl) ⟨Tryz.func113,by kernel_rfl,by kernel_rfl⟩ .nil) (.cons sortS_prim (.cons compactS_prim .nil)) rfl
set_option maxHeartbeats 4000000 in
theorem linesC_ok : Pure Tryz.prog 98 linesC_S:=by
  refine pure_by linesC_E 6 (fi:={fn:=Tryz.f98,hooks:=[],draws:=[]}) ⟨Tryz.func98,by kernel_rfl,by kernel_rfl⟩ ?_
  rintro _ K ⟨c,l,rfl,⟨hc,hl,hs⟩,hK⟩
  replace hK : ∀ r,r = .sl strV (linesC c l) → K r:=fun r h=>h ▸ hK
  have hcn : c.kind = 9 ∨ c.kind = 10 → 1 ≤ c.n ∧ c.n ≤ 1000:=fun h=>by
    unfold checkCmd useN at hc
    grind
  have hone : ∀ r : List Bs,linesC c l = r → K (.sl strV r):=fun r h=>hK _ (by rw [h])
  unfold linesC at hone
  repeat' first | (refine fun (b : Bool) hb=>?_; cases b <;> (first | exact absurd hb (by decide) | exact Bool.noConfusion (show true = false from hb) | exact Bool.noConfusion (show false = true from hb) | skip)) | (refine fun (hl : _ ≤ MAXL)=>?_) | refine And.intro (a:=I64 _) ?_ ?_ | refine And.intro (a:=_ ≤ 140737488355328) ?_ ?_ | refine ⟨(fun _=>rfl),?_⟩ | fail
  · -- one line at a time
    have h6 : ¬ c.kind = 6:=of_decide_eq_false (by assumption)
    have h7 : ¬ c.kind = 7:=of_decide_eq_false (by assumption)
    have h8 : ¬ c.kind = 8:=of_decide_eq_false (by assumption)
    have h9 : ¬ c.kind = 9:=of_decide_eq_false (by assumption)
    have h10 : ¬ c.kind = 10:=of_decide_eq_false (by assumption)
    rw [if_neg h6,if_neg h7,if_neg h8,if_neg h9,if_neg h10] at hone
    conv=>whnf
    refine loop_live [2,51,52] (σ:=Nat × List Bs) (fun s=>[(53,.int .i64 s.1),(5,.own 1)]) (fun s=>[.box (cmdV c).cells,.row 1 (s.2.map strV)]) (fun s=>s.2 = (l.take s.1).filterMap (outC c) ∧ s.1 ≤ l.length) (fun s=>l.length - s.1) (0,[]) ?_
    conv=>whnf
    refine ⟨(by (refine wk_auto ?_; refine Sel4.mk rfl rfl ?_ ?_ <;> (repeat' (first | exact True.intro | exact rfl | exact Or.inl rfl | exact Or.inr rfl | refine And.intro ?_ ?_ | fail)))),⟨by simp,Nat.zero_le _⟩,fun s hs=>?_⟩
    obtain ⟨i,out⟩:=s
    obtain ⟨ho,hi⟩:=hs
    dsimp only at ho hi
    have hol : out.length ≤ 900000:=by
      rw [ho]
      have:=List.length_filterMap_le (outC c) (l.take i)
      simp only [List.length_take] at this
      omega
    repeat' first | refine ⟨_,_,_,LeL.refl _,?_⟩ | (refine fun (b : Bool) hb=>?_; cases b <;> (first | exact absurd hb (by decide) | exact Bool.noConfusion (show true = false from hb) | exact Bool.noConfusion (show false = true from hb) | skip)) | refine ⟨_,rfl,?_,rfl,?_⟩ | fail
    · have h : ¬ (i : Int) < (l.length : Int):=of_decide_eq_false (by assumption)
      have e : i = l.length:=by omega
      rw [e,List.take_length] at ho
      conv=>whnf
      exact hone _ ho.symm
    all_goals have hlt : i < l.length:=by grind
    · exact hlt
    refine ⟨c,l[i],rfl,⟨hc,hs _ (List.getElem_mem hlt)⟩,?_⟩
    have hnx : (l.take (i + 1)).filterMap (outC c) = out ++ (match oneC c l[i] with | (t,true)=>[t] | (_,false)=>[]):=by
      rw [List.take_succ_eq_append_getElem hlt,List.filterMap_append,← ho]
      congr 1
      simp only [List.filterMap_cons,List.filterMap_nil]
      unfold outC
      generalize oneC c l[i] = p
      obtain ⟨t,b⟩:=p
      cases b <;> rfl
    obtain ⟨p,hp⟩ : ∃ p,oneC c l[i] = p:=⟨_,rfl⟩
    rw [hp] at hnx ⊢
    obtain ⟨t,b⟩:=p
    cases b
    · repeat' first | (refine fun (b : Bool) hb=>?_; cases b <;> (first | exact absurd hb (by decide) | exact Bool.noConfusion (show true = false from hb) | exact Bool.noConfusion (show false = true from hb) | skip)) | refine And.intro (a:=I64 _) ?_ ?_ | fail
      · (first | omega | (unfold I64; omega) | (simp only [List.length_append,List.length_map,List.length_cons,List.length_nil,Nat.mul_one,Int.ofNat_eq_natCast] at *; omega) | (dsimp only at *; omega) | (unfold I64; dsimp only at *; omega) | (unfold I64; grind) | grind)
      refine ⟨(i + 1,out),(by (refine wk_auto ?_; refine Sel4.mk rfl rfl ?_ ?_ <;> (repeat' (first | exact True.intro | exact rfl | exact Or.inl rfl | exact Or.inr rfl | refine And.intro ?_ ?_ | fail)))),⟨?_,hlt⟩,?_⟩
      · show out = _
        rw [hnx]
        simp
      · show l.length - (i + 1) < l.length - i
        omega
    · repeat' first | (refine fun (b : Bool) hb=>?_; cases b <;> (first | exact absurd hb (by decide) | exact Bool.noConfusion (show true = false from hb) | exact Bool.noConfusion (show false = true from hb) | skip)) | refine And.intro (a:=I64 _) ?_ ?_ | refine And.intro (a:=_ ≤ 140737488355328) ?_ ?_ | refine ⟨rfl,?_⟩ | fail
      · show ((out.map strV).length + 1) * 16 ≤ 140737488355328
        rw [List.length_map]
        omega
      · (first | omega | (unfold I64; omega) | (simp only [List.length_append,List.length_map,List.length_cons,List.length_nil,Nat.mul_one,Int.ofNat_eq_natCast] at *; omega) | (dsimp only at *; omega) | (unfold I64; dsimp only at *; omega) | (unfold I64; grind) | grind)
      refine ⟨(i + 1,out ++ [t]),?_,⟨?_,hlt⟩,?_⟩
      rotate_left
      · show out ++ [t] = _
        rw [hnx]
      · show l.length - (i + 1) < l.length - i
        omega
      (refine wk_auto ?_; refine Sel4.mk rfl rfl ?_ ?_ <;> (repeat' (first | exact True.intro | exact rfl | exact Or.inl rfl | exact Or.inr rfl | refine And.intro ?_ ?_ | fail)))
      show Row.row 1 _ = Row.row 1 _
      simp
      rfl
  · obtain ⟨h1,h2⟩:=hcn (.inr (of_decide_eq_true (by assumption)))
    (first | omega | (unfold I64; omega) | (simp only [List.length_append,List.length_map,List.length_cons,List.length_nil,Nat.mul_one,Int.ofNat_eq_natCast] at *; omega) | (dsimp only at *; omega) | (unfold I64; dsimp only at *; omega) | (unfold I64; grind) | grind)
  · obtain ⟨h1,h2⟩:=hcn (.inr (of_decide_eq_true (by assumption)))
    have h6 : ¬ c.kind = 6:=of_decide_eq_false (by assumption)
    have h7 : ¬ c.kind = 7:=of_decide_eq_false (by assumption)
    have h8 : ¬ c.kind = 8:=of_decide_eq_false (by assumption)
    have h9 : ¬ c.kind = 9:=of_decide_eq_false (by assumption)
    have h10 : c.kind = 10:=of_decide_eq_true (by assumption)
    rw [if_neg h6,if_neg h7,if_neg h8,if_neg h9,if_pos h10] at hone
    conv=>whnf
    refine ⟨l.length - c.n.toNat,by omega,by omega,?_⟩
    repeat' first | refine ⟨_,_,_,LeL.refl _,?_⟩ | (refine fun (b : Bool) hb=>?_; cases b <;> (first | exact absurd hb (by decide) | exact Bool.noConfusion (show true = false from hb) | exact Bool.noConfusion (show false = true from hb) | skip)) | refine And.intro (a:=_ ≤ 140737488355328) ?_ ?_ | refine ⟨(fun _=>rfl),?_⟩ | fail
    · show (0 + ((l.drop (l.length - c.n.toNat)).map strV).length) * 16 ≤ 140737488355328
      rw [List.length_map,List.length_drop]
      omega
    · exact hone _ rfl
    · have h : true = true → l.drop (l.length - c.n.toNat) = []:=by assumption
      refine ⟨_,strV,hone _ (h rfl)⟩
  · obtain ⟨h1,h2⟩:=hcn (.inl (of_decide_eq_true (by assumption)))
    have h6 : ¬ c.kind = 6:=of_decide_eq_false (by assumption)
    have h7 : ¬ c.kind = 7:=of_decide_eq_false (by assumption)
    have h8 : ¬ c.kind = 8:=of_decide_eq_false (by assumption)
    have h9 : c.kind = 9:=of_decide_eq_true (by assumption)
    rw [if_neg h6,if_neg h7,if_neg h8,if_pos h9] at hone
    conv=>whnf
    have ht : l.take (min c.n.toNat l.length) = l.take c.n.toNat:=by
      rw [← List.take_take,List.take_length]
    refine ⟨min c.n.toNat l.length,by omega,by omega,?_⟩
    repeat' first | refine ⟨_,_,_,LeL.refl _,?_⟩ | (refine fun (b : Bool) hb=>?_; cases b <;> (first | exact absurd hb (by decide) | exact Bool.noConfusion (show true = false from hb) | exact Bool.noConfusion (show false = true from hb) | skip)) | refine And.intro (a:=_ ≤ 140737488355328) ?_ ?_ | refine ⟨(fun _=>rfl),?_⟩ | fail
    · show (0 + ((l.take (min c.n.toNat l.length)).map strV).length) * 16 ≤ 140737488355328
      rw [List.length_map,List.length_take]
      omega
    · exact hone _ ht.symm
    · have h : true = true → l.take (min c.n.toNat l.length) = []:=by assumption
      refine ⟨_,strV,hone _ (ht.symm.trans (h rfl))⟩
  · have h6 : ¬ c.kind = 6:=of_decide_eq_false (by assumption)
    have h7 : ¬ c.kind = 7:=of_decide_eq_false (by assumption)
    have h8 : c.kind = 8:=of_decide_eq_true (by assumption)
    rw [if_neg h6,if_neg h7,if_pos h8] at hone
    refine ⟨l.length,rfl,⟨by omega,by omega⟩,?_⟩
    skip
    refine ⟨Bs,strV,[Lib.itoa l.length],LeL.refl _,?_⟩
    exact hone _ rfl
  · show (0 + (l.map strV).length) * 16 ≤ 140737488355328
    rw [List.length_map]
    omega
  · refine .inl ⟨l,rfl,rfl,?_⟩
    repeat' first | refine ⟨_,_,_,LeL.refl _,?_⟩ | fail
    have h6 : ¬ c.kind = 6:=of_decide_eq_false (by assumption)
    have h7 : c.kind = 7:=of_decide_eq_true (by assumption)
    rw [if_neg h6,if_pos h7] at hone
    exact hone _ rfl
  · have h : true = true → l = []:=by assumption
    refine .inr ⟨rfl,rfl,?_⟩
    skip
    have h6 : ¬ c.kind = 6:=of_decide_eq_false (by assumption)
    have h7 : c.kind = 7:=of_decide_eq_true (by assumption)
    rw [if_neg h6,if_pos h7,h rfl] at hone
    exact ⟨_,strV,hone [] (by simp [onceB,Lib.compact,Lib.compactUpTo])⟩
  · show (0 + (l.map strV).length) * 16 ≤ 140737488355328
    rw [List.length_map]
    omega
  · refine .inl ⟨l,rfl,rfl,by omega,?_⟩
    repeat' first | refine ⟨_,_,_,LeL.refl _,?_⟩ | fail
    have h6 : c.kind = 6:=of_decide_eq_true (by assumption)
    rw [if_pos h6] at hone
    exact hone _ rfl
  · have h : true = true → l = []:=by assumption
    refine .inr ⟨rfl,rfl,?_⟩
    skip
    have h6 : c.kind = 6:=of_decide_eq_true (by assumption)
    rw [if_pos h6,h rfl] at hone
    exact ⟨_,strV,hone [] (by simp [sortB])⟩
end Gv
namespace Gv
variable [Glob] [Laid]
def bytesGo : Nat → List Bs → Int
  | _,[]=>0
  | n,s :: r=>if s.contains 10 = true then 4 else if (s.length : Int) > 4000 - n - 1 then 2 else bytesGo (n + s.length + 1) r
def lineBytes (l : List Bs) : Bs × Int:=if bytesGo 0 l = 0 then (put l,0) else ([],bytesGo 0 l)
theorem bytesGo_at {l : List Bs} {i : Nat} (h : bytesGo (put (l.take i)).length (l.drop i) = bytesGo 0 l) (hi : i < l.length) :
    bytesGo 0 l = if l[i].contains 10 = true then 4 else if (l[i].length : Int) > 4000 - (put (l.take i)).length - 1 then 2 else bytesGo (put (l.take (i + 1))).length (l.drop (i + 1)):=by
  rw [← h,List.drop_eq_getElem_cons hi,bytesGo,put_take_succ hi]
  simp only [List.length_append,List.length_cons,List.length_nil,Nat.add_assoc]
theorem bytes_ca : callable Tryz.prog 124 = true:=by kernel_rfl
def bytes_S : Spec:=fun args K=>∃ l : List Bs,args = [.sl strV l] ∧ (∀ s ∈ l,s.length ≤ reachBytes) ∧ K (.tup [.sl byteV (lineBytes l).1,.int .i64 (lineBytes l).2])
noncomputable def bytes_lib : List (Nat × Spec):=[(180,containsB_S)]
noncomputable def bytes_fns : List (Nat × FnI):=[]
noncomputable def bytes_prims : List (Nat × PSpec):=[]
theorem bytes_E : EnvOK ⟨Tryz.prog,tys,bytes_lib,bytes_fns,bytes_prims,[]⟩:=env_ok mixed0 tys0 (.cons containsB_ca containsB_ok .nil) .nil .nil rfl
set_option maxHeartbeats 4000000 in
theorem bytes_ok : Pure Tryz.prog 124 bytes_S:=by
  refine pure_by bytes_E 6 (fi:={fn:=Tryz.f124,hooks:=[],draws:=[]}) ⟨Tryz.func124,by kernel_rfl,by kernel_rfl⟩ ?_
  rintro _ K ⟨l,rfl,hz,hK⟩
  replace hK : ∀ r,r = .tup [.sl byteV (lineBytes l).1,.int .i64 (lineBytes l).2] → K r:=fun r h=>h ▸ hK
  refine fun (hl : _ ≤ MAXL)=>?_
  conv=>whnf
  refine loop_live [7,8] (σ:=Nat) (fun i=>[(4,.own 0),(9,.int .i64 i)]) (fun i=>[.row 1 ((put (l.take i)).map byteV)]) (fun i=>i ≤ l.length ∧ bytesGo (put (l.take i)).length (l.drop i) = bytesGo 0 l ∧ (put (l.take i)).length ≤ 4000) (fun i=>l.length - i) 0 ?_
  conv=>whnf
  refine ⟨(by (refine wk_sel [none] rfl rfl ?_ ?_ <;> (repeat' (first | exact True.intro | exact rfl | exact Or.inl rfl | exact Or.inr rfl | refine And.intro ?_ ?_ | fail)))),⟨Nat.zero_le _,rfl,by simp [put]⟩,fun i hi=>?_⟩
  obtain ⟨hi,hg,hs⟩:=hi
  repeat' first | refine ⟨_,_,_,LeL.refl _,?_⟩ | (refine fun (b : Bool) hb=>?_; cases b <;> (first | exact absurd hb (by decide) | exact Bool.noConfusion (show true = false from hb) | exact Bool.noConfusion (show false = true from hb) | skip)) | refine And.intro (a:=_ ≤ 140737488355328) ?_ ?_ | refine ⟨_,rfl,?_,rfl,?_⟩ | refine Opt.a ?_ | fail
  · refine hK _ ?_
    have e : l.take i = l:=List.take_of_length_le (by grind)
    have e2 : l.drop i = []:=List.drop_eq_nil_of_le (by grind)
    rw [e2,bytesGo] at hg
    unfold lineBytes
    rw [← hg,e]
    rfl
  · grind
  · exact Nat.le_trans (hz _ (List.getElem_mem (by grind))) (by decide)
  have hi2 : i < l.length:=by grind
  have ha:=bytesGo_at hg hi2
  have ht:=@put_take_succ l i hi2
  refine ⟨l[i],10,rfl,?_⟩
  repeat' first | (refine fun (b : Bool) hb=>?_; cases b <;> (first | exact absurd hb (by decide) | exact Bool.noConfusion (show true = false from hb) | exact Bool.noConfusion (show false = true from hb) | skip)) | (refine fun (hl : _ ≤ MAXL)=>?_) | refine And.intro (a:=I64 _) ?_ ?_ | refine And.intro (a:=_ ≤ 140737488355328) ?_ ?_ | refine ⟨rfl,?_⟩ | refine ⟨UInt8,byteV,?_⟩ | fail
  · (first | omega | (unfold I64; omega) | (simp only [List.length_append,List.length_map,List.length_cons,List.length_nil,Nat.mul_one,Int.ofNat_eq_natCast] at *; omega) | (dsimp only at *; omega) | (unfold I64; dsimp only at *; omega) | (unfold I64; grind) | grind)
  · (first | omega | (unfold I64; omega) | (simp only [List.length_append,List.length_map,List.length_cons,List.length_nil,Nat.mul_one,Int.ofNat_eq_natCast] at *; omega) | (dsimp only at *; omega) | (unfold I64; dsimp only at *; omega) | (unfold I64; grind) | grind)
  · simp only [List.length_append,List.length_map,List.length_cons,List.length_nil,Nat.mul_one] at *
    grind
  · simp only [List.length_append,List.length_map,List.length_cons,List.length_nil,Nat.mul_one] at *
    grind
  · (first | omega | (unfold I64; omega) | (simp only [List.length_append,List.length_map,List.length_cons,List.length_nil,Nat.mul_one,Int.ofNat_eq_natCast] at *; omega) | (dsimp only at *; omega) | (unfold I64; dsimp only at *; omega) | (unfold I64; grind) | grind)
  · simp only [List.length_map] at *
    have h1 : ¬ l[i].contains 10 = true:=by grind
    have h2 : ¬ (l[i].length : Int) > 4000 - (put (l.take i)).length - 1:=by grind
    rw [if_neg h1,if_neg h2] at ha
    refine ⟨i + 1,?_,⟨by omega,ha.symm,?_⟩,by omega⟩
    · refine wk_sel [some 3] rfl rfl ⟨?_,trivial⟩ ?_
      · rw [ht,List.map_append,List.map_append,← List.append_assoc]
        exact rfl
      · (repeat' (first | exact True.intro | exact rfl | exact Or.inl rfl | exact Or.inr rfl | refine And.intro ?_ ?_ | fail))
    · rw [ht]
      simp only [List.length_append,List.length_cons,List.length_nil]
      omega
  · simp only [List.length_map] at *
    refine hK _ ?_
    have h1 : ¬ l[i].contains 10 = true:=by grind
    have h2 : (l[i].length : Int) > 4000 - (put (l.take i)).length - 1:=by grind
    rw [if_neg h1,if_pos h2] at ha
    unfold lineBytes
    rw [ha]
    rfl
  · refine hK _ ?_
    have h1 : l[i].contains 10 = true:=by assumption
    rw [if_pos h1] at ha
    unfold lineBytes
    rw [ha]
    rfl
end Gv
namespace Gv
variable [Glob] [Laid] [Nums]
def shellLine (l : List FileS) (x : LineS) : Bs × Int:=if checkLine x ≠ 0 then ([],checkLine x) else if (gatherS l x.frm).2 ≠ 0 then ([],(gatherS l x.frm).2) else lineBytes (doLines x.cmds (linesOf (gatherS l x.frm).1))
theorem checkLine_ok {x : LineS} (h : checkLine x = 0) : x.cmds.length ≤ 6 ∧ ∀ c ∈ x.cmds,checkCmd c = 0:=by
  unfold checkLine at h
  split at h
  · cases h
  · split at h
    · cases h
    · rename_i h1 h2
      exact ⟨by omega,firstBad_at h⟩
theorem lineF_ca : callable Tryz.prog 47 = true:=by kernel_rfl
def lineF_S : Spec:=fun args K=>∃ (l : List FileS) (f : List Bs) (c : List Cmd) (t : Bs),args = [.sl fileV l,.agg [.sl strV f,.sl cmdV c,.str t]] ∧ K (.tup [.sl byteV (shellLine l ⟨f,c,t⟩).1,.int .i64 (shellLine l ⟨f,c,t⟩).2])
noncomputable def lineF_lib : List (Nat × Spec):=[(42,cline_S),(85,gather_S),(123,linesL_S),(98,linesC_S),(124,bytes_S)]
noncomputable def lineF_fns : List (Nat × FnI):=[]
noncomputable def lineF_prims : List (Nat × PSpec):=[]
theorem lineF_E : EnvOK ⟨Tryz.prog,tys,lineF_lib,lineF_fns,lineF_prims,[]⟩:=env_ok mixed0 tys0 (.cons cline_ca cline_ok (.cons gather_ca gather_ok (.cons linesL_ca linesL_ok (.cons linesC_ca linesC_ok (.cons bytes_ca bytes_ok .nil))))) .nil .nil rfl
set_option maxHeartbeats 8000000 in
theorem lineF_ok : Pure Tryz.prog 47 lineF_S:=by
  refine pure_by lineF_E 6 (fi:={fn:=Tryz.f47,hooks:=[],draws:=[]}) ⟨Tryz.func47,by kernel_rfl,by kernel_rfl⟩ ?_
  rintro _ K ⟨l,f,c,t,rfl,hK⟩
  replace hK : ∀ r,r = .tup [.sl byteV (shellLine l ⟨f,c,t⟩).1,.int .i64 (shellLine l ⟨f,c,t⟩).2] → K r:=fun r h=>h ▸ hK
  have hone : ∀ r : Bs × Int,shellLine l ⟨f,c,t⟩ = r → K (.tup [.sl byteV r.1,.int .i64 r.2]):=fun r h=>hK _ (by rw [h])
  unfold shellLine at hone
  dsimp only at hone
  refine ⟨f,c,t,rfl,?_⟩
  obtain ⟨e,he⟩ : ∃ e,checkLine ⟨f,c,t⟩ = e:=⟨_,rfl⟩
  rw [he] at hone ⊢
  repeat' first | (refine fun (b : Bool) hb=>?_; cases b <;> (first | exact absurd hb (by decide) | exact Bool.noConfusion (show true = false from hb) | exact Bool.noConfusion (show false = true from hb) | skip)) | fail
  rotate_left
  · have h0 : ¬ e = 0 := by
      have h : (!decide (e = 0)) = true:=by assumption
      simpa using h
    rw [if_pos h0] at hone
    skip
    exact ⟨_,byteV,hone _ rfl⟩
  have h0 : e = 0:=by
    have h : (!decide (e = 0)) = false:=by assumption
    simpa using h
  subst h0
  rw [if_neg (by simp)] at hone
  obtain ⟨hc6,hcc⟩:=checkLine_ok he
  dsimp only at hc6 hcc
  refine ⟨l,f,rfl,?_⟩
  have hgl:=gatherS_len l f
  obtain ⟨g,hg⟩ : ∃ g,gatherS l f = g:=⟨_,rfl⟩
  rw [hg] at hone hgl ⊢
  obtain ⟨b,e⟩:=g
  dsimp only at hone hgl
  repeat' first | (refine fun (b : Bool) hb=>?_; cases b <;> (first | exact absurd hb (by decide) | exact Bool.noConfusion (show true = false from hb) | exact Bool.noConfusion (show false = true from hb) | skip)) | fail
  rotate_left
  · have h0 : ¬ e = 0 := by
      have h : (!decide (e = 0)) = true:=by assumption
      simpa using h
    rw [if_pos h0] at hone
    skip
    exact ⟨_,byteV,hone _ rfl⟩
  have h0 : e = 0:=by
    have h : (!decide (e = 0)) = false:=by assumption
    simpa using h
  subst h0
  rw [if_neg (by simp)] at hone
  refine ⟨b,rfl,by omega,?_⟩
  have hpb:=put_lines b
  have hdp:=doLines_put hcc (s:=linesOf b) (by omega) (by omega)
  repeat' first | (refine fun (hl : _ ≤ MAXL)=>?_) | fail
  conv=>whnf
  refine loop_live [30,31] (σ:=Nat × List Bs) (fun s=>[(32,.int .i64 s.1),(9,.sl strV s.2)]) (fun s=>[.box [.sl strV f,.sl cmdV c,.str t]]) (fun s=>s.1 ≤ c.length ∧ s.2 = doLines (c.take s.1) (linesOf b)) (fun s=>c.length - s.1) (0,linesOf b) ?_
  conv=>whnf
  refine ⟨(by (refine wk_auto ?_; refine Sel4.mk rfl rfl ?_ ?_ <;> (repeat' (first | exact True.intro | exact rfl | exact Or.inl rfl | exact Or.inr rfl | refine And.intro ?_ ?_ | fail)))),⟨Nat.zero_le _,rfl⟩,fun s hs=>?_⟩
  obtain ⟨i,s⟩:=s
  obtain ⟨hi,hs⟩:=hs
  dsimp only at hi hs
  have hsp : (put s).length ≤ 5000:=by
    have:=hdp i hi
    rw [hs]; omega
  have hsl:=put_len (l:=s) (n:=5000) hsp
  repeat' first | (refine fun (b : Bool) hb=>?_; cases b <;> (first | exact absurd hb (by decide) | exact Bool.noConfusion (show true = false from hb) | exact Bool.noConfusion (show false = true from hb) | skip)) | refine ⟨_,rfl,?_,rfl,?_⟩ | fail
  · have hge : ¬ (i : Int) < (c.length : Int):=of_decide_eq_false (by assumption)
    have ei : c.take i = c:=List.take_of_length_le (by omega)
    rw [ei] at hs
    skip
    refine ⟨s,rfl,fun x hx=>by have:=put_el hx; unfold reachBytes; omega,?_⟩
    skip
    exact hone _ (by rw [hs])
  · have h:=of_decide_eq_true (by assumption : decide ((i : Int) < (c.length : Int)) = true)
    show i < c.length
    omega
  have hlt : i < c.length:=by
    have h:=of_decide_eq_true (by assumption : decide ((i : Int) < (c.length : Int)) = true)
    omega
  conv=>whnf
  refine ⟨c[i],s,rfl,⟨hcc _ (List.getElem_mem hlt),by omega,fun x hx=>by have:=put_el hx; omega⟩,?_⟩
  repeat' first | refine And.intro (a:=I64 _) ?_ ?_ | fail
  · unfold I64
    dsimp only
    omega
  refine ⟨(i + 1,linesC c[i] s),(by (refine wk_auto ?_; refine Sel4.mk rfl rfl ?_ ?_ <;> (repeat' (first | exact True.intro | exact rfl | exact Or.inl rfl | exact Or.inr rfl | refine And.intro ?_ ?_ | fail)))),⟨hlt,?_⟩,by show c.length - (i + 1) < c.length - i; omega⟩
  show linesC c[i] s = _
  rw [doLines_take hlt,hs]
end Gv
namespace Gv
variable [Glob] [Laid] [Nums]
theorem linesC_put4 {c : Cmd} (h : checkCmd c = 0) (l : List Bs) (hl : (put l).length ≤ 4000) : (put (linesC c l)).length ≤ 4000:=by
  have h0:=put_len (l:=l) (n:=4000) hl
  unfold linesC
  split
  · rw [put_perm (sortB_perm l)]; omega
  split
  · have:=put_sub (onceB_sublist l); omega
  split
  · have:=itoa_len l.length ⟨by omega,by omega⟩
    simp only [put,List.length_append,List.length_cons,List.length_nil]
    omega
  split
  · have:=put_sub (List.take_sublist c.n.toNat l); omega
  split
  · have:=put_sub (List.drop_sublist (l.length - c.n.toNat) l); omega
  · have:=put_filterMap h l; omega
theorem doLines_put4 : ∀ {cs : List Cmd} {s : List Bs},(∀ c ∈ cs,checkCmd c = 0) → (put s).length ≤ 4000 → (put (doLines cs s)).length ≤ 4000
  | [],s,_,h=>h
  | c :: r,s,hc,h=>doLines_put4 (cs:=r) (fun d hd=>hc d (List.mem_cons_of_mem _ hd)) (linesC_put4 (hc c (List.mem_cons_self ..)) s h)
theorem bytesGo_fine4 : ∀ {l : List Bs} {n : Nat},NoNl l → n + (put l).length ≤ 4000 → bytesGo n l = 0
  | [],n,_,_=>rfl
  | s :: r,n,h,hl=>by
    simp only [put,List.length_append,List.length_cons] at hl
    rw [bytesGo,if_neg (by simpa using h s (List.mem_cons_self ..)),if_neg (by omega)]
    exact bytesGo_fine4 (fun x hx=>h x (List.mem_cons_of_mem _ hx)) (by omega)
theorem doLines_no : ∀ {cs : List Cmd} {s : List Bs},(∀ c ∈ cs,checkCmd c = 0) → NoNl s → NoNl (doLines cs s)
  | [],s,_,h=>h
  | c :: r,s,hc,h=>doLines_no (cs:=r) (fun d hd=>hc d (List.mem_cons_of_mem _ hd)) (linesC_no (hc c (List.mem_cons_self ..)) h)
def allOf (F : List FileS) (f : List Bs) : List Bs:=(f.map fun s=>linesOf (fileAt F s)).flatten
theorem gather_val {F : List FileS} {f : List Bs} (h : (gatherS F f).2 = 0) : checkFiles F = 0 ∧ f.length ≤ 4 ∧ NoNl (allOf F f) ∧ (put (allOf F f)).length ≤ 4000 ∧ (allOf F f).length ≤ 4000 ∧ (gatherS F f).1 = put (allOf F f) ∧ linesOf (gatherS F f).1 = allOf F f:=by
  have hl:=gatherS_len F f
  obtain ⟨g,hg⟩ : ∃ g,gatherS F f = (g,0):=⟨_,Prod.ext rfl h⟩
  have hgs : gatherS F f = if checkFiles F ≠ 0 then ([],checkFiles F) else if 4 < f.length then ([],2) else gatherGo F [] f:=rfl
  have hf : checkFiles F = 0:=by
    by_cases hf : checkFiles F = 0
    · exact hf
    · rw [hgs,if_pos hf] at h
      exact h
  have h4 : ¬ 4 < f.length:=fun h4=>by
    rw [hgs,if_neg (by rw [hf]; decide),if_pos h4] at h
    cases h
  have hgg : gatherGo F (put []) f = (g,0):=by
    rw [hgs,if_neg (by rw [hf]; decide),if_neg h4] at hg
    exact hg
  have hgo:=gatherGo_ok _ _ hgg
  rw [List.nil_append] at hgo
  have hno : NoNl (allOf F f):=noNl_flat fun a ha=>by
    obtain ⟨b,-,rfl⟩:=List.mem_map.1 ha
    exact linesOf_no10 _
  rw [hg] at hl ⊢
  have hgo : g = put (allOf F f):=hgo
  dsimp only at hl ⊢
  rw [hgo] at hl ⊢
  exact ⟨hf,by omega,hno,hl,put_len hl,rfl,linesOf_put hno⟩
theorem line_parts {l : LineS} (h : checkLine l = 0) : ∀ c ∈ l.cmds,checkCmd c = 0:=(checkLine_ok h).2
theorem shell_line {l : LineS} {F : List FileS} (hc : checkLine l = 0) (hg : (gatherS F l.frm).2 = 0) : shellLine F l = (put (doLines l.cmds (linesOf (gatherS F l.frm).1)),0):=by
  obtain ⟨g1,g2,g3,g4,g5,g6,g7⟩:=gather_val hg
  unfold shellLine
  rw [if_neg (by rw [hc]; decide),if_neg (by rw [hg]; decide),g7]
  unfold lineBytes
  rw [if_pos]
  have:=doLines_put4 (line_parts hc) g4
  exact bytesGo_fine4 (doLines_no (line_parts hc) g3) (by omega)
end Gv
namespace Gv
variable [Glob] [Laid] [Nums]
def lineV2 (F : List FileS) (x : LineS) : Bs × Int:=if (gatherS F x.frm).2 ≠ 0 then ([],(gatherS F x.frm).2) else lineBytes (doLines x.cmds (linesOf (gatherS F x.frm).1))
def shA : FileS:=⟨[97],[50,10,49]⟩
def shB : FileS:=⟨[98],[48]⟩
def shC : FileS:=⟨[99],[48,10,49,10,50,10]⟩
def shD : FileS:=⟨[97],[51,10]⟩
def shX : LineS:=⟨[[97],[98],[120]],[⟨6,[],0⟩],[99]⟩
def shY : LineS:=⟨[[99]],[⟨8,[],0⟩],[97]⟩
theorem sh1 : gatherS [shA,shB] shX.frm = ([50,10,49,10,48,10],0):=by decide +kernel
theorem sh2 : gatherS [shA,shB,shC] shY.frm = ([48,10,49,10,50,10],0):=by decide +kernel
theorem sh3 : lineV2 [shA,shB] shX = ([48,10,49,10,50,10],0):=by
  unfold lineV2
  rw [sh1,if_neg (by decide),show linesOf ([50,10,49,10,48,10],(0 : Int)).1 = [[50],[49],[48]] by decide +kernel]
  show lineBytes (linesC ⟨6,[],0⟩ [[50],[49],[48]]) = _
  rw [show linesC ⟨6,[],0⟩ [[50],[49],[48]] = sortB [[50],[49],[48]] from rfl,sortB_of (l':=[[48],[49],[50]]) (by decide) (by decide)]
  decide +kernel
theorem sh4 : lineV2 [shA,shB,shC] shY = ([51,10],0):=by
  unfold lineV2
  rw [sh2,if_neg (by decide)]
  decide +kernel
theorem sh5 : putS [shA,shB] [99] [48,10,49,10,50,10] = ([shA,shB,shC],0):=by decide +kernel
theorem sh6 : putS [shA,shB,shC] [97] [51,10] = ([shD,shB,shC],0):=by decide +kernel
theorem sh7 : checkFiles [shA,shB] = 0:=by decide +kernel
theorem sh8 : checkS [shX,shY] = 0 ∧ checkLine shX = 0 ∧ checkLine shY = 0:=by decide +kernel
theorem sh_run {L : List FileS → LineS → Bs × Int} (h : ∀ F x,checkLine x = 0 → L F x = lineV2 F x) : runL L [shA,shB] [shX,shY] = ([shD,shB,shC],0):=by
  unfold runL
  rw [if_neg (by rw [sh7]; decide),if_neg (by rw [sh8.1]; decide),runGoL,h _ _ sh8.2.1,sh3,if_neg (by decide)]
  show (if (putS [shA,shB] [99] [48,10,49,10,50,10]).2 ≠ 0 then _ else runGoL L (putS [shA,shB] [99] [48,10,49,10,50,10]).1 [shY]) = _
  rw [sh5,if_neg (by decide),runGoL,h _ _ sh8.2.2,sh4,if_neg (by decide)]
  show (if (putS [shA,shB,shC] [97] [51,10]).2 ≠ 0 then _ else runGoL L (putS [shA,shB,shC] [97] [51,10]).1 []) = _
  rw [sh6]
  rfl
theorem shellLine_v {F : List FileS} {x : LineS} (h : checkLine x = 0) : shellLine F x = lineV2 F x:=by
  unfold shellLine
  rw [if_neg (by rw [h]; decide)]
  rfl
theorem sh_run2 : runL shellLine [shA,shB] [shX,shY] = ([shD,shB,shC],0):=sh_run fun F x h=>shellLine_v h
end Gv
namespace Gv
variable [Glob] [Laid]
theorem scheckS_ca : callable Tryz.prog 43 = true:=by kernel_rfl
def scheckS_S : Spec:=fun args K=>∃ (l : List LineS),args = [.sl lineV l] ∧ K (.int .i64 (checkS l))
noncomputable def scheckS_lib : List (Nat × Spec):=[(42,cline_S)]
noncomputable def scheckS_fns : List (Nat × FnI):=[]
noncomputable def scheckS_prims : List (Nat × PSpec):=[]
theorem scheckS_E : EnvOK ⟨Tryz.prog,tys,scheckS_lib,scheckS_fns,scheckS_prims,[]⟩:=env_ok mixed0 tys0 (.cons cline_ca cline_ok .nil) .nil .nil rfl
set_option maxHeartbeats 4000000 in
theorem scheckS_ok : Pure Tryz.prog 43 scheckS_S:=by
  refine pure_by scheckS_E 6 (fi:={fn:=Tryz.f43,hooks:=[],draws:=[]}) ⟨Tryz.func43,by kernel_rfl,by kernel_rfl⟩ ?_
  rintro _ K ⟨l,rfl,hK⟩
  replace hK : ∀ r,r = .int .i64 (checkS l) → K r:=fun r h=>h ▸ hK
  unfold checkS at hK
  repeat' first | (refine fun (b : Bool) hb=>?_; cases b <;> (first | exact absurd hb (by decide) | exact Bool.noConfusion (show true = false from hb) | exact Bool.noConfusion (show false = true from hb) | skip)) | (refine fun (hl : _ ≤ MAXL)=>?_) | fail
  rotate_left
  · refine hK _ ?_
    rw [if_pos (by grind)]
  have h6 : ¬ 6 < l.length:=by grind
  rw [if_neg h6] at hK
  conv=>whnf
  refine loop_live [9,10] (σ:=Nat) (fun i=>[(11,.int .i64 i)]) (fun _=>[]) (fun i=>i ≤ l.length ∧ linesBad (l.drop i) = linesBad l) (fun i=>l.length - i) 0 ?_
  conv=>whnf
  refine ⟨(by (refine wk_auto ?_; refine Sel4.mk rfl rfl ?_ ?_ <;> (repeat' (first | exact True.intro | exact rfl | exact Or.inl rfl | exact Or.inr rfl | refine And.intro ?_ ?_ | fail)))),⟨Nat.zero_le _,rfl⟩,fun i hi=>?_⟩
  obtain ⟨hi,hI⟩:=hi
  repeat' first | (refine fun (b : Bool) hb=>?_; cases b <;> (first | exact absurd hb (by decide) | exact Bool.noConfusion (show true = false from hb) | exact Bool.noConfusion (show false = true from hb) | skip)) | refine ⟨_,rfl,?_,rfl,?_⟩ | fail
  · refine hK _ ?_
    have e : l.drop i = []:=List.drop_eq_nil_of_le (by grind)
    rw [e] at hI
    rw [← hI]
    rfl
  · grind
  have hi2 : i < l.length:=by grind
  have hd : l.drop i = l[i] :: l.drop (i + 1):=List.drop_eq_getElem_cons hi2
  rw [hd] at hI
  refine ⟨l[i].frm,l[i].cmds,l[i].to,rfl,?_⟩
  have hb0 : linesBad (l[i] :: l.drop (i + 1)) = if checkLine l[i] ≠ 0 then checkLine l[i] else linesBad (l.drop (i + 1)):=rfl
  rw [show checkLine ⟨l[i].frm,l[i].cmds,l[i].to⟩ = checkLine l[i] from rfl]
  generalize checkLine l[i] = e at hb0 ⊢
  repeat' first | (refine fun (b : Bool) hb=>?_; cases b <;> (first | exact absurd hb (by decide) | exact Bool.noConfusion (show true = false from hb) | exact Bool.noConfusion (show false = true from hb) | skip)) | refine And.intro (a:=I64 _) ?_ ?_ | fail
  · (first | omega | (unfold I64; omega) | (simp only [List.length_append,List.length_map,List.length_cons,List.length_nil,Nat.mul_one,Int.ofNat_eq_natCast] at *; omega) | (dsimp only at *; omega) | (unfold I64; dsimp only at *; omega) | (unfold I64; grind) | grind)
  · refine ⟨i + 1,(by (refine wk_auto ?_; refine Sel4.mk rfl rfl ?_ ?_ <;> (repeat' (first | exact True.intro | exact rfl | exact Or.inl rfl | exact Or.inr rfl | refine And.intro ?_ ?_ | fail)))),⟨by omega,?_⟩,by omega⟩
    rw [← hI,hb0,if_neg (by grind)]
  · refine hK _ ?_
    have he : e ≠ 0:=by grind
    rw [← hI,hb0,if_pos he]
end Gv
namespace Gv
variable [Glob] [Laid]
theorem copyF_ca : callable Tryz.prog 90 = true:=by kernel_rfl
def copyF_S : Spec:=fun args K=>∃ (l : List FileS),args = [.sl fileV l] ∧ (l.length ≤ 1000 ∧ ∀ f ∈ l,f.b.length ≤ 1000000) ∧ K (.sl fileV l)
noncomputable def copyF_lib : List (Nat × Spec):=[(126,cloneB_S)]
noncomputable def copyF_fns : List (Nat × FnI):=[(52,{fn:=Tryz.f52,hooks:=[],draws:=[]})]
noncomputable def copyF_prims : List (Nat × PSpec):=[]
theorem copyF_E : EnvOK ⟨Tryz.prog,tys,copyF_lib,copyF_fns,copyF_prims,[]⟩:=env_ok mixed0 tys0 (.cons cloneB_ca cloneB_ok .nil) (.cons (by kernel_rfl) ⟨Tryz.func52,by kernel_rfl,by kernel_rfl⟩ .nil) .nil rfl
set_option maxHeartbeats 8000000 in
theorem copyF_ok : Pure Tryz.prog 90 copyF_S:=by
  refine pure_by copyF_E 6 (fi:={fn:=Tryz.f90,hooks:=[2],draws:=[]}) ⟨Tryz.func90,by kernel_rfl,by kernel_rfl⟩ ?_
  rintro _ K ⟨l,rfl,⟨hl0,hfb⟩,hK⟩
  replace hK : ∀ r,r = .sl fileV l → K r:=fun r h=>h ▸ hK
  conv=>whnf
  refine join_live [] (σ:=Unit) (fun _=>[(0,.own 0)]) (fun _=>[.row 2 (l.map fileV)]) (fun _=>True) ?_
  conv=>whnf
  refine ⟨?_,fun _ _=>?_⟩
  · repeat' first | (refine fun (b : Bool) hb=>?_; cases b <;> (first | exact absurd hb (by decide) | exact Bool.noConfusion (show true = false from hb) | exact Bool.noConfusion (show false = true from hb) | skip)) | refine And.intro (a:=_ ≤ 140737488355328) ?_ ?_ | refine ⟨(fun _=>rfl),?_⟩ | fail
    · show (0 + (l.map fileV).length) * 40 ≤ 140737488355328
      rw [List.length_map]
      omega
    · exact ⟨(),(by (refine wk_auto ?_; refine Sel4.mk rfl rfl ?_ ?_ <;> (repeat' (first | exact True.intro | exact rfl | exact Or.inl rfl | exact Or.inr rfl | refine And.intro ?_ ?_ | fail)))),trivial⟩
    · have h : true = true → l = []:=by assumption
      rw [h rfl]
      exact ⟨(),(by (refine wk_auto ?_; refine Sel4.mk rfl rfl ?_ ?_ <;> (repeat' (first | exact True.intro | exact rfl | exact Or.inl rfl | exact Or.inr rfl | refine And.intro ?_ ?_ | fail)))),trivial⟩
  repeat' first | (refine fun (hl : _ ≤ MAXL)=>?_) | fail
  conv=>whnf
  refine loop_live [0,7,8] (σ:=Nat) (fun i=>[(9,.int .i64 i)]) (fun i=>[.row 2 (l.map fileV)]) (fun i=>i ≤ l.length) (fun i=>l.length - i) 0 ?_
  conv=>whnf
  refine ⟨(by (refine wk_auto ?_; refine Sel4.mk rfl rfl ?_ ?_ <;> (repeat' (first | exact True.intro | exact rfl | exact Or.inl rfl | exact Or.inr rfl | refine And.intro ?_ ?_ | fail)))),Nat.zero_le _,fun i hi=>?_⟩
  repeat' first | refine ⟨_,_,_,LeL.refl _,?_⟩ | (refine fun (b : Bool) hb=>?_; cases b <;> (first | exact absurd hb (by decide) | exact Bool.noConfusion (show true = false from hb) | exact Bool.noConfusion (show false = true from hb) | skip)) | refine ⟨rfl,?_⟩ | fail
  · conv=>whnf
    exact hK _ rfl
  have hlt : i < l.length:=by
    have h:=of_decide_eq_true (by assumption : decide ((i : Int) < ((l.map fileV).length : Int)) = true)
    rw [List.length_map] at h
    omega
  have hg : (l.map fileV)[i]? = some (fileV l[i]):=by rw [List.getElem?_map,List.getElem?_eq_getElem hlt]; rfl
  have hlm : i < (l.map fileV).length:=by rw [List.length_map]; exact hlt
  refine ⟨i,rfl,hlm,?_⟩
  conv=>whnf
  refine ⟨_,hg,?_⟩
  repeat' first | refine ⟨_,rfl,?_,rfl,?_⟩ | fail
  · exact hfb _ (List.getElem_mem hlt)
  refine ⟨i,rfl,hlm,?_⟩
  conv=>whnf
  refine ⟨_,hg,?_⟩
  repeat' first | refine And.intro (a:=I64 _) ?_ ?_ | fail
  · have hl1 : (l.map fileV).length ≤ MAXL:=by assumption
    unfold I64; omega
  refine ⟨i + 1,?_,hlt,by omega⟩
  (refine wk_auto ?_; refine Sel4.mk rfl rfl ?_ ?_ <;> (repeat' (first | exact True.intro | exact rfl | exact Or.inl rfl | exact Or.inr rfl | refine And.intro ?_ ?_ | fail)))
  have e : (l.map fileV).set i (fileV l[i]) = l.map fileV:=by
    have : (l.map fileV)[i]'hlm = fileV l[i]:=by simp
    rw [← this,List.set_getElem_self]
  show Row.row 2 (l.map fileV) = Row.row 2 ((l.map fileV).set i (fileV l[i]))
  rw [e]
end Gv
namespace Gv
variable [Glob] [Laid]
theorem copyO_ca : callable Tryz.prog 90 = true:=by kernel_rfl
def copyO_P : PSpec:=fun args rows K=>∃ (l : List FileS),args = [.sl fileV l] ∧ rows = [] ∧ (l.length ≤ 1000 ∧ ∀ f ∈ l,f.b.length ≤ 1000000) ∧ K (.own 0) [.row 2 (l.map fileV)]
noncomputable def copyO_lib : List (Nat × Spec):=[(126,cloneB_S)]
noncomputable def copyO_fns : List (Nat × FnI):=[(52,{fn:=Tryz.f52,hooks:=[],draws:=[]})]
noncomputable def copyO_prims : List (Nat × PSpec):=[]
theorem copyO_E : EnvOK ⟨Tryz.prog,tys,copyO_lib,copyO_fns,copyO_prims,[]⟩:=env_ok mixed0 tys0 (.cons cloneB_ca cloneB_ok .nil) (.cons (by kernel_rfl) ⟨Tryz.func52,by kernel_rfl,by kernel_rfl⟩ .nil) .nil rfl
set_option maxHeartbeats 8000000 in
theorem copyO_prim : PrimOK Tryz.prog 90 copyO_P:=by
  refine prim_by copyO_E 6 copyO_ca (fi:={fn:=Tryz.f90,hooks:=[2],draws:=[]}) ⟨Tryz.func90,by kernel_rfl,by kernel_rfl⟩ ?_
  rintro args rows K ⟨l,rfl,rfl,⟨hl0,hfb⟩,hK⟩
  conv=>whnf
  refine join_live [] (σ:=Unit) (fun _=>[(0,.own 0)]) (fun _=>[.row 2 (l.map fileV)]) (fun _=>True) ?_
  conv=>whnf
  refine ⟨?_,fun _ _=>?_⟩
  · repeat' first | (refine fun (b : Bool) hb=>?_; cases b <;> (first | exact absurd hb (by decide) | exact Bool.noConfusion (show true = false from hb) | exact Bool.noConfusion (show false = true from hb) | skip)) | refine And.intro (a:=_ ≤ 140737488355328) ?_ ?_ | refine ⟨(fun _=>rfl),?_⟩ | fail
    · show (0 + (l.map fileV).length) * 40 ≤ 140737488355328
      rw [List.length_map]
      omega
    · exact ⟨(),(by (refine wk_auto ?_; refine Sel4.mk rfl rfl ?_ ?_ <;> (repeat' (first | exact True.intro | exact rfl | exact Or.inl rfl | exact Or.inr rfl | refine And.intro ?_ ?_ | fail)))),trivial⟩
    · have h : true = true → l = []:=by assumption
      rw [h rfl]
      exact ⟨(),(by (refine wk_auto ?_; refine Sel4.mk rfl rfl ?_ ?_ <;> (repeat' (first | exact True.intro | exact rfl | exact Or.inl rfl | exact Or.inr rfl | refine And.intro ?_ ?_ | fail)))),trivial⟩
  repeat' first | (refine fun (hl : _ ≤ MAXL)=>?_) | fail
  conv=>whnf
  refine loop_live [0,7,8] (σ:=Nat) (fun i=>[(9,.int .i64 i)]) (fun i=>[.row 2 (l.map fileV)]) (fun i=>i ≤ l.length) (fun i=>l.length - i) 0 ?_
  conv=>whnf
  refine ⟨(by (refine wk_auto ?_; refine Sel4.mk rfl rfl ?_ ?_ <;> (repeat' (first | exact True.intro | exact rfl | exact Or.inl rfl | exact Or.inr rfl | refine And.intro ?_ ?_ | fail)))),Nat.zero_le _,fun i hi=>?_⟩
  repeat' first | (refine fun (b : Bool) hb=>?_; cases b <;> (first | exact absurd hb (by decide) | exact Bool.noConfusion (show true = false from hb) | exact Bool.noConfusion (show false = true from hb) | skip)) | refine ⟨rfl,?_⟩ | fail
  · conv=>whnf
    exact hK
  have hlt : i < l.length:=by
    have h:=of_decide_eq_true (by assumption : decide ((i : Int) < ((l.map fileV).length : Int)) = true)
    rw [List.length_map] at h
    omega
  have hg : (l.map fileV)[i]? = some (fileV l[i]):=by rw [List.getElem?_map,List.getElem?_eq_getElem hlt]; rfl
  have hlm : i < (l.map fileV).length:=by rw [List.length_map]; exact hlt
  refine ⟨i,rfl,hlm,?_⟩
  conv=>whnf
  refine ⟨_,hg,?_⟩
  repeat' first | refine ⟨_,rfl,?_,rfl,?_⟩ | fail
  · exact hfb _ (List.getElem_mem hlt)
  refine ⟨i,rfl,hlm,?_⟩
  conv=>whnf
  refine ⟨_,hg,?_⟩
  repeat' first | refine And.intro (a:=I64 _) ?_ ?_ | fail
  · have hl1 : (l.map fileV).length ≤ MAXL:=by assumption
    unfold I64; omega
  refine ⟨i + 1,?_,hlt,by omega⟩
  (refine wk_auto ?_; refine Sel4.mk rfl rfl ?_ ?_ <;> (repeat' (first | exact True.intro | exact rfl | exact Or.inl rfl | exact Or.inr rfl | refine And.intro ?_ ?_ | fail)))
  have e : (l.map fileV).set i (fileV l[i]) = l.map fileV:=by
    have : (l.map fileV)[i]'hlm = fileV l[i]:=by simp
    rw [← this,List.set_getElem_self]
  show Row.row 2 (l.map fileV) = Row.row 2 ((l.map fileV).set i (fileV l[i]))
  rw [e]
end Gv
namespace Gv
variable [Glob] [Laid]
set_option maxHeartbeats 4000000 in
set_option maxRecDepth 100000 in
theorem insF_in {m : Mem} {b vb cap vc i : Nat} {els : List V} {x : V} {arr xarr : Array Value} {T T' : TypeId} {fz fz' : Nat × Nat} {w : World} (hb : w.heap[b]? = some (.cells arr T fz)) (hv : w.heap[vb]? = some (.cells xarr T' fz')) (hne : vb ≠ b) (hz : noFk 2 arr.size fz) (hz' : noFk 2 xarr.size fz') (he : ElsR m 2 els arr) (hx : ElsR m 2 [x] xarr)
    (hi : i < els.length) (hl : els.length ≤ 1000) (hc : els.length + 1 ≤ cap) (hcap : cap ≤ MAXL) (hs : arr.size = cap * 2) (hs' : 2 ≤ xarr.size) :
    Calls Tryz.prog 127 #[.slice (some ⟨b,0,none⟩) els.length cap,.int .i64 i,.slice (some ⟨vb,0,none⟩) 1 vc] w fun e w'=>∃ A,e = .returned (.slice (some ⟨b,0,none⟩) (els.length + 1) cap) ∧ Bel [b] w w' ∧ w'.heap[b]? = some (.cells A T fz) ∧ A.size = arr.size ∧ ElsR m 2 (els.take i ++ x :: els.drop i) A:=by
  have hzE : tyOf Tryz.prog 67 = some (.agg #[.string ⟨#[]⟩,.slice none 0 0],2,40,true):=by kernel_rfl
  have mixed:=mixed0
  have t1:=Tryz.underlying22; have a1:=Tryz.isAgg22; have z1:=Tryz.sizeOf22; have v1:=Tryz.zeroValue22; have u1:=run_underlying Tryz.underlying22
  have t2:=Tryz.underlying67; have a2:=Tryz.isAgg67; have z2:=Tryz.sizeOf67; have v2:=Tryz.zeroValue67; have u2:=run_underlying Tryz.underlying67
  have t3:=Tryz.underlying3; have a3:=Tryz.isAgg3; have z3:=Tryz.sizeOf3; have v3:=Tryz.zeroValue3; have u3:=run_underlying Tryz.underlying3
  have t4:=Tryz.underlying4; have a4:=Tryz.isAgg4; have z4:=Tryz.sizeOf4; have v4:=Tryz.zeroValue4; have u4:=run_underlying Tryz.underlying4
  have hfz':=hz'.2 (by decide)
  subst hfz'
  unfold MAXL at hcap
  have hov : ∀ o lb cb,(callFunc 182 #[.slice (some ⟨vb,0,none⟩) 1 vc,.slice (some ⟨b,o,none⟩) lb cb]).run Tryz.prog w = .ok (.value (.bool false)) w:=fun o lb cb=>by
    rw [run_callFunc_extern Tryz.func182 (by kernel_rfl) (by kernel_rfl) (by kernel_rfl) (e:=Extern.SlicesOverlaps.overlaps #[22,22] #[4]) (by kernel_rfl),
      Lib.run_overlaps_apart w 22 4 67 Tryz.underlying22 2 Tryz.sizeOf67 ⟨vb,0,none⟩ ⟨b,o,none⟩ 1 vc lb cb hne T' T xarr.size arr.size (by simp [World.shape?,hv]) (by simp [World.shape?,hb]) (by omega) (by simp [World.frozen?,hv]) (by simp [World.frozen?,hv])]
    rfl
  have hw1 : IntKind.i64.wrap ((i : Int) + 1) = (i : Int) + 1:=by rw [IntKind.wrap_i64]; omega
  have hw2 : IntKind.i64.wrap ((els.length : Int) + 1) = (els.length : Int) + 1:=by rw [IntKind.wrap_i64]; omega
  have hb1 : (0 : Int) ≤ (i : Int) + 1:=by omega
  have htn : ((i : Int) + 1).toNat = i + 1:=by omega
  have hb3 : (i : Int) ≤ (els.length : Int) + 1:=by omega
  have hb2 : ¬ cap = i + 1:=by omega
  have hb4 : ¬ cap = i:=by omega
  have hb5 : (i : Int) + 1 ≤ (els.length : Int) + 1:=by omega
  obtain ⟨new,hnl,hnr,hn1,hng⟩:=src_from (P:=Tryz.prog) (l:=els.length + 1 - i) (cap:=cap - i) hb he (Nat.le_of_lt hi)
  obtain ⟨w1,hr1,hbel1,hh1⟩:=run_copy_in (P:=Tryz.prog) (w:=w.drew) (T:=22) (U:=22) (b:=b) (o:=(i + 1) * 2) (dLen:=els.length + 1 - (i + 1)) (dCap:=cap - (i + 1)) (sLen:=els.length + 1 - i) (n:=els.length - i) (sv:=.slice (some ⟨b,i * 2,none⟩) (els.length + 1 - i) (cap - i)) t1 hzE rfl (by simp only [Nat.min_def]; split <;> omega) (hnr w.drew rfl) hn1 hb hz.1 (by rw [hnl,hs]; omega) 3
  have hv1 : w1.heap[vb]? = some (.cells xarr T' (0,0)):=by
    rw [hbel1.block vb (lt_of_heap (w:=w.drew) hv) (by simpa using hne)]; exact hv
  obtain ⟨new2,hnl2,hnr2,hn12,hng2⟩:=src_from (P:=Tryz.prog) (w:=w1) (b:=vb) (i:=0) (l:=1) (cap:=vc) hv1 hx (Nat.zero_le _)
  simp only [List.length_cons,List.length_nil,Nat.zero_add,Nat.sub_zero,Nat.zero_mul,Nat.one_mul] at hnl2 hnr2 hng2
  obtain ⟨w2,hr2,hbel2,hh2⟩:=run_copy_in (P:=Tryz.prog) (w:=w1) (T:=22) (U:=22) (b:=b) (o:=i * 2) (dLen:=els.length + 1 - i) (dCap:=cap - i) (sLen:=1) (n:=1) (sv:=.slice (some ⟨vb,0,none⟩) 1 vc) t1 hzE rfl (by simp only [Nat.min_def]; split <;> omega) (hnr2 w1 rfl) hn12 hh1 (by rw [size_putL]; exact hz.1) (by rw [hnl2,size_putL,hs]; omega) 3
  have hA : ElsR m 2 (els.take i ++ x :: els.drop i) (putL (putL arr ((i + 1) * 2) new) (i * 2) new2):=by
    have b1 : (i + 1) * 2 + new.length ≤ arr.size:=by rw [hnl,hs]; omega
    have b2 : i * 2 + new2.length ≤ (putL arr ((i + 1) * 2) new).size:=by rw [hnl2,size_putL,hs]; omega
    refine ElsR.ins he hx (Nat.le_of_lt hi) (fun j hj=>?_) (fun j hj=>?_) (fun j h1 h2=>?_)
    · rw [get_putL _ _ _ b2,if_pos hj,get_putL _ _ _ b1,if_pos (by omega)]
    · rw [get_putL _ _ _ b2,if_neg (by omega),if_pos (by omega),show i * 2 + j - i * 2 = j by omega]
      exact hng2 j (by omega)
    · rw [get_putL _ _ _ b2,if_neg (by omega),if_neg (by omega),get_putL _ _ _ b1,if_neg (by omega),if_pos (by omega),hng _ (by omega)]
      congr 1; omega
  generalize hn : els.length = n at *
  go_enter Tryz.func127,Tryz.ntmps127
  go_wp2_with (simp only [hov])
  go_region_law_o (refine reg_copy rfl _ _ 22 22 rfl (by simp [Act.eval,Act.put,hb2]) (by simp [Act.eval,Act.put,hb4]) hr1 ?_)
  go_wp2_with (at_builtin; refine wpl_copy rfl _ _ 22 22 rfl rfl rfl hr2 ?_)
  go_ret
  refine ⟨_,rfl,((Bel.drew [b] w).trans hbel1).trans hbel2,hh2,by rw [size_putL,size_putL],hA⟩
set_option maxHeartbeats 4000000 in
set_option maxRecDepth 100000 in
theorem insF_grow {m : Mem} {b vb cap vc i : Nat} {els : List V} {x : V} {arr xarr : Array Value} {T T' : TypeId} {fz fz' : Nat × Nat} {w : World} (hb : w.heap[b]? = some (.cells arr T fz)) (hv : w.heap[vb]? = some (.cells xarr T' fz')) (he : ElsR m 2 els arr) (hx : ElsR m 2 [x] xarr)
    (hi : i < els.length) (hl : els.length ≤ 1000) (hlc : els.length ≤ cap) (hc : cap < els.length + 1) :
    Calls Tryz.prog 127 #[.slice (some ⟨b,0,none⟩) els.length cap,.int .i64 i,.slice (some ⟨vb,0,none⟩) 1 vc] w fun e w'=>∃ A nc,e = .returned (.slice (some ⟨w.heap.size,0,none⟩) (els.length + 1) nc) ∧ els.length + 1 ≤ nc ∧ nc ≤ MAXL ∧ Bel [] w w' ∧ w'.heap[w.heap.size]? = some (.cells A 67 (0,0)) ∧ A.size = nc * 2 ∧ ElsR m 2 (els.take i ++ x :: els.drop i) A:=by
  have hzE : tyOf Tryz.prog 67 = some (.agg #[.string ⟨#[]⟩,.slice none 0 0],2,40,true):=by kernel_rfl
  have mixed:=mixed0
  have t1:=Tryz.underlying22; have a1:=Tryz.isAgg22; have z1:=Tryz.sizeOf22; have v1:=Tryz.zeroValue22; have u1:=run_underlying Tryz.underlying22
  have t2:=Tryz.underlying67; have a2:=Tryz.isAgg67; have z2:=Tryz.sizeOf67; have v2:=Tryz.zeroValue67; have u2:=run_underlying Tryz.underlying67
  have t3:=Tryz.underlying3; have a3:=Tryz.isAgg3; have z3:=Tryz.sizeOf3; have v3:=Tryz.zeroValue3; have u3:=run_underlying Tryz.underlying3
  have t4:=Tryz.underlying4; have a4:=Tryz.isAgg4; have z4:=Tryz.sizeOf4; have v4:=Tryz.zeroValue4; have u4:=run_underlying Tryz.underlying4
  obtain ⟨i0,ui,hi0,hui,hiz,hik,hie,hig⟩:=tyOf_parts hzE
  have hw2 : IntKind.i64.wrap ((els.length : Int) + 1) = (els.length : Int) + 1:=by rw [IntKind.wrap_i64]; omega
  have hw1 : IntKind.i64.wrap ((i : Int) + 1) = (i : Int) + 1:=by rw [IntKind.wrap_i64]; omega
  have hw3 : IntKind.i64.wrap ((els.length : Int) + 1 - (i : Int)) = (els.length : Int) + 1 - (i : Int):=by rw [IntKind.wrap_i64]; omega
  have hb1 : (0 : Int) ≤ (i : Int) + 1:=by omega
  have htn : ((i : Int) + 1).toNat = i + 1:=by omega
  have hb3 : (i : Int) ≤ (els.length : Int) + 1:=by omega
  have hb5 : (i : Int) + 1 ≤ (els.length : Int) + 1:=by omega
  have hb6 : (i : Int) ≤ (cap : Int):=by omega
  have hb7 : (i : Int) ≤ (els.length : Int):=by omega
  have hb8 : i ≤ els.length:=by omega
  have hb9 : i ≤ cap:=by omega
  have hbw:=lt_of_heap hb
  have hvw:=lt_of_heap hv
  have hkk : (els.length : Int) + 1 - (i : Int) = ((els.length + 1 - i : Nat) : Int):=by omega
  have hik2 : i + (els.length + 1 - i) = els.length + 1:=by omega
  have S:=src_block (P:=Tryz.prog) (m:=m) (w:=w) (b:=b) (off:=0) (k:=2) (cap:=cap) (ys:=els.take i) hb (fun t y hy=>by
    rw [List.getElem?_take] at hy
    split at hy
    · simpa using he t y hy
    · cases hy)
  have hti : (els.take i).length = i:=by rw [List.length_take]; omega
  obtain ⟨olds,hol,hor,hog⟩ : ∃ olds : List Value,olds.length = i * 2 ∧ (Builtin.firstCells i0.size i (.slice (some ⟨b,0,none⟩) i cap)).run Tryz.prog w.drew = .ok olds.toArray w.drew ∧ ∀ j,j < i * 2 → olds[j]? = arr[j]?:=by
    refine ⟨_,S.size.trans (by rw [hti]),by have:=S.run w.drew rfl; rw [hti] at this ⊢; rw [hik]; exact this,fun j hj=>?_⟩
    rw [hti,List.getElem?_map,List.getElem?_range hj]
    obtain ⟨h1,h2,h3⟩:=index_split hj
    obtain ⟨g1,g2⟩:=he (j / 2) _ (List.getElem?_eq_getElem (by omega))
    obtain ⟨u,g3,g4⟩:=g2 (j % 2) _ (List.getElem?_eq_getElem (by omega))
    rw [h3] at g3
    simp [g3]
  have hrz:=Lib.run_append_grow_zeros w 22 3 22 67 i0 _ .i64 .i64 t1 t3 hi0 hiz (some ⟨b,0,none⟩) i cap olds hor (els.length + 1 - i) (by omega) (by omega) (by omega) (by omega) (by rw [hie]; omega) (by rw [hie,hik2]; exact growslice_fits hc (by omega))
  rw [hik2,← hkk] at hrz
  obtain ⟨G,hG⟩ : ∃ G,G = grownCap w (els.length + 1) cap 67:=⟨_,rfl⟩
  have hGn : els.length + 1 ≤ G:=by rw [hG]; exact grownCap_ge w _ _ _
  have hG63 : G ≤ 9223372036854775807:=by
    have:=grownCap_le_maxLen w (els.length + 1) cap 67 (by unfold maxLen; omega)
    rw [← hG] at this
    unfold maxLen at this
    omega
  rw [← hG] at hrz
  generalize hROW : olds.toArray ++ Builtin.zeroCells _ (els.length + 1 - i) ++ Builtin.zeroCells _ (G - (els.length + 1)) = ROW at hrz
  have hRs : ROW.size = G * 2:=by
    rw [← hROW]
    simp [zeroCells_size,hol,Value.cells]
    omega
  have hRo : ∀ j,j < i * 2 → ROW[j]? = arr[j]?:=fun j hj=>by
    rw [← hROW,Array.append_assoc,Array.getElem?_append_left (by simp; omega)]
    simpa using hog j hj
  have hNh : (w.drew.alloc (.cells ROW 67)).heap[w.heap.size]? = some (.cells ROW 67 (0,0)):=Gw.heap_alloc_new w.drew _
  have hB0 : Bel [] w (w.drew.alloc (.cells ROW 67)):=(Bel.drew [] w).trans (Bel.alloc [] _ _)
  generalize hW1 : w.drew.alloc (.cells ROW 67) = W1 at *
  have hv1 : W1.heap[vb]? = some (.cells xarr T' fz'):=by rw [hB0.block vb hvw (by simp)]; exact hv
  have hbW1 : W1.heap[b]? = some (.cells arr T fz):=by rw [hB0.block b hbw (by simp)]; exact hb
  have hGi : ¬ (G = i):=by omega
  have hGim : ¬ (G = i + 1):=by omega
  have hci : ¬ (cap = i):=by omega
  obtain ⟨new2,hnl2,hnr2,hn12,hng2⟩:=src_from (P:=Tryz.prog) (w:=W1) (b:=vb) (i:=0) (l:=1) (cap:=vc) hv1 hx (Nat.zero_le _)
  simp only [List.length_cons,List.length_nil,Nat.zero_add,Nat.sub_zero,Nat.zero_mul,Nat.one_mul] at hnl2 hnr2 hng2
  obtain ⟨w2,hr2,hbel2,hh2⟩:=run_copy_in (P:=Tryz.prog) (w:=W1) (T:=22) (U:=22) (b:=w.heap.size) (o:=i * 2) (dLen:=els.length + 1 - i) (dCap:=G - i) (sLen:=1) (n:=1) (sv:=.slice (some ⟨vb,0,none⟩) 1 vc) t1 hzE rfl (by simp only [Nat.min_def]; split <;> omega) (hnr2 W1 rfl) hn12 hNh (noFz0 _) (by rw [hnl2,hRs]; omega) 3
  have hb2 : w2.drew.heap[b]? = some (.cells arr T fz):=by
    have : w2.heap[b]? = some (.cells arr T fz):=by rw [hbel2.block b (Nat.lt_of_lt_of_le hbw hB0.size) (by simp; omega)]; exact hbW1
    exact this
  obtain ⟨new,hnl,hnr,hn1,hng⟩:=src_from (P:=Tryz.prog) (w:=w2.drew) (l:=els.length - i) (cap:=cap - i) hb2 he (Nat.le_of_lt hi)
  obtain ⟨w3,hr3,hbel3,hh3⟩:=run_copy_in (P:=Tryz.prog) (w:=w2.drew) (T:=22) (U:=22) (b:=w.heap.size) (o:=(i + 1) * 2) (dLen:=els.length + 1 - (i + 1)) (dCap:=G - (i + 1)) (sLen:=els.length - i) (n:=els.length - i) (sv:=.slice (some ⟨b,i * 2,none⟩) (els.length - i) (cap - i)) t1 hzE rfl (by simp only [Nat.min_def]; split <;> omega) (hnr w2.drew rfl) hn1 hh2 (noFz0 _) (by rw [hnl,size_putL,hRs]; omega) 3
  have hA : ElsR m 2 (els.take i ++ x :: els.drop i) (putL (putL ROW (i * 2) new2) ((i + 1) * 2) new):=by
    have b1 : i * 2 + new2.length ≤ ROW.size:=by rw [hnl2,hRs]; omega
    have b2 : (i + 1) * 2 + new.length ≤ (putL ROW (i * 2) new2).size:=by rw [hnl,size_putL,hRs]; omega
    refine ElsR.ins he hx (Nat.le_of_lt hi) (fun j hj=>?_) (fun j hj=>?_) (fun j h1 h2=>?_)
    · rw [get_putL _ _ _ b2,if_pos (by omega),get_putL _ _ _ b1,if_pos hj]
      exact hRo j hj
    · rw [get_putL _ _ _ b2,if_pos (by omega),get_putL _ _ _ b1,if_neg (by omega),if_pos (by omega),show i * 2 + j - i * 2 = j by omega]
      exact hng2 j (by omega)
    · rw [get_putL _ _ _ b2,if_neg (by omega),if_pos (by omega),hng _ (by omega)]
      congr 1; omega
  have hfin : Bel [] w w3:=by
    have h1 : Bel [w.heap.size] w w3:=((hB0.weaken (by simp)).trans hbel2).trans ((Bel.drew _ w2).trans hbel3)
    exact h1.weaken fun k hk hx=>by simp at hx; omega
  have hsz : (putL (putL ROW (i * 2) new2) ((i + 1) * 2) new).size = G * 2:=by rw [size_putL,size_putL,hRs]
  clear hb hv he hx hB0 hol hor hog hnl hnr hn1 hng hnl2 hnr2 hn12 hng2 hbel2 hbel3 hh2 hb2 hbW1 hv1 hNh hRo hRs hROW hG S hti hW1 hik hie hig hui hiz hi0 hik2 hkk
  generalize hn : els.length = n at *
  go_enter Tryz.func127,Tryz.ntmps127
  go_wp2_with (first
    | (at_builtin; refine wpl_append rfl _ _ 22 3 rfl rfl rfl hrz ?_)
    | (at_builtin; refine wpl_copy rfl _ _ 22 22 rfl rfl rfl hr2 ?_))
  go_region_law_o (refine reg_copy rfl _ _ 22 22 rfl (by simp [Act.eval,Act.put,hGim]) (by simp [Act.eval,Act.put,hci]) hr3 ?_)
  go_wp2
  go_ret
  exact ⟨_,_,rfl,hGn,hG63,hfin,hh3,hsz,hA⟩
theorem insF_E : EnvOK ⟨Tryz.prog,tys,[],[],[],[]⟩:=env_ok mixed0 tys0 .nil .nil .nil rfl
set_option maxHeartbeats 4000000 in
set_option maxRecDepth 100000 in
theorem insF_end {w0 : Start} {m0 R m : Mem} {q : Loc} {rows : Rows} {K : V → Rows → Prop} {w : World} {els : List V} {x : V} {r rv : Nat} {cap vc : Nat} {oa oa' : Option Addr} (C : Cf w0 m0 rows R m q w) (hr : rows[r]? = some (.row 2 els)) (hrv : rows[rv]? = some (.row 2 [x]))
    (hl : els.length ≤ 1000) (hv : VR m q (.own r) (.slice oa els.length cap)) (hv' : VR m q (.own rv) (.slice oa' 1 vc)) (hK : setK rows r .dead fun a=>pushK 0 a (.row 2 (els ++ [x])) fun j b=>K (.own j) b) :
    Calls Tryz.prog 127 #[.slice oa els.length cap,.int .i64 els.length,.slice oa' 1 vc] w fun e w'=>∃ u,e = .returned u ∧ After w0 m0 m q K u w':=by
  have ha : appO ⟨Tryz.prog,tys,[],[],[],[]⟩ 22 (.own r) (.own rv) rows (fun v rows'=>K v rows' ∧ ∃ j,v = .own j):=by
    rw [← nth_eq] at hr hrv
    obtain ⟨hrl,hK⟩:=setK_ok _ _ _ _ hK
    have hK:=pushK_ok _ _ _ _ hK
    refine (show elN 2 (.own rv) rows ∧ (match elsOf (.own rv) rows with
        | some ys => match nth rows r with
            | some (.row q els)=>match Nat.beq q 2 with
              | true=>(els.length + ys.length) * 40 ≤ 140737488355328 ∧ setK rows r .dead fun rows'=>pushK 0 rows' (.row 2 (els ++ ys)) fun r' rows''=>(fun v rows'=>K v rows' ∧ ∃ j,v = .own j) (.own r') rows''
              | false=>False
            | _=>False
        | none=>False) → _ from fun h=>h) ⟨?_,?_⟩
    · simp only [elN,hrv]; rfl
    · simp only [elsOf,hrv,hr]
      exact ⟨by simp; omega,setK_mk _ _ _ _ hrl (pushK_mk _ _ _ _ ⟨hK,_,rfl⟩)⟩
  obtain ⟨u,w',hrun,hA⟩:=appO_ok (T:=22) (U:=22) insF_E C hv hv' Tryz.underlying22 rfl ha 22
  obtain ⟨v,rows',R',m',q',⟨h1,j,rfl⟩,h2,h3,h4,h5⟩:=hA
  have hA : After w0 m0 m q K u w':=⟨_,rows',R',m',q',h1,h2,h3,h4,h5⟩
  obtain ⟨ua,un,uc,rfl⟩ : ∃ a n c,u = .slice a n c:=by
    cases h5; exact ⟨_,_,_,rfl⟩
  have mixed:=mixed0
  have t1:=Tryz.underlying22; have a1:=Tryz.isAgg22; have z1:=Tryz.sizeOf22; have v1:=Tryz.zeroValue22; have u1:=run_underlying Tryz.underlying22
  have t2:=Tryz.underlying67; have a2:=Tryz.isAgg67; have z2:=Tryz.sizeOf67; have v2:=Tryz.zeroValue67; have u2:=run_underlying Tryz.underlying67
  have t3:=Tryz.underlying3; have a3:=Tryz.isAgg3; have z3:=Tryz.sizeOf3; have v3:=Tryz.zeroValue3; have u3:=run_underlying Tryz.underlying3
  have t4:=Tryz.underlying4; have a4:=Tryz.isAgg4; have z4:=Tryz.sizeOf4; have v4:=Tryz.zeroValue4; have u4:=run_underlying Tryz.underlying4
  clear ha hK h1 h2 h3 h4 h5
  generalize hn : els.length = n at *
  go_enter Tryz.func127,Tryz.ntmps127
  go_wp2_with (at_builtin; refine wpl_append rfl _ _ 22 22 rfl rfl rfl hrun ?_)
  all_goals (go_ret; exact ⟨_,rfl,hA⟩)
theorem insF_ca : callable Tryz.prog 127 = true:=by kernel_rfl
def insF_P : PSpec:=fun args rows K=>∃ (els : List V) (x : V) (i r rv : Nat),args = [.own r,.int .i64 i,.own rv] ∧ r ≠ rv ∧ rows[r]? = some (.row 2 els) ∧ rows[rv]? = some (.row 2 [x]) ∧ i ≤ els.length ∧ els.length ≤ 1000 ∧ setK rows r .dead fun a=>pushK 0 a (.row 2 (els.take i ++ x :: els.drop i)) fun j b=>K (.own j) b
set_option maxHeartbeats 4000000 in
theorem insF_prim : PrimOK Tryz.prog 127 insF_P:=by
  intro w0 m0 args rows K R m q w us C hv hT
  obtain ⟨els,x,i,r,rv,rfl,hne,hr,hrv,hi,hl,hK⟩:=hT
  have hlen : us.length = 3:=by rw [← hv.len]; rfl
  obtain ⟨u,u',u'',rfl⟩ : ∃ u u' u'',us = [u,u',u'']:=by
    match us,hlen with
    | [u,u',u''],_=>exact ⟨u,u',u'',rfl⟩
  have hu:=hv.el 0 (.own r) u rfl rfl
  have hu':=hv.el 1 (.int .i64 i) u' rfl rfl
  have hu'':=hv.el 2 (.own rv) u'' rfl rfl
  cases hu'
  refine ⟨insF_ca,?_⟩
  obtain ⟨ob,cap,g1,g2,g3,g4,g5⟩:=C.rok.row r _ hr
  obtain ⟨ob',cap',g1',g2',g3',g4',g5'⟩:=C.rok.row rv _ hrv
  have h0:=hu
  have h0'':=hu''
  cases hu with | own hq=>?_
  cases hu'' with | own hq''=>?_
  rw [g1] at hq; cases hq
  rw [g1'] at hq''; cases hq''
  by_cases hin : i = els.length
  · subst hin
    rw [List.take_length,List.drop_length] at hK
    exact insF_end C hr hrv hl h0 h0'' hK
  have hlt : i < els.length:=by omega
  obtain ⟨b,rfl⟩ : ∃ b,ob = some b:=by
    cases ob with
    | some b=>exact ⟨b,rfl⟩
    | none=>have:=g4 rfl; omega
  obtain ⟨vb,rfl⟩ : ∃ b,ob' = some b:=by
    cases ob' with
    | some b=>exact ⟨b,rfl⟩
    | none=>have:=g4' rfl; simp at g2'; omega
  obtain ⟨arr,T,fz,a1,a2,a3,a4⟩:=g5 b rfl
  obtain ⟨xarr,T',fz',b1,b2,b3,b4⟩:=g5' vb rfl
  have hbh:=(C.sit.own _ _ a1).2.1
  have hvh:=(C.sit.own _ _ b1).2.1
  have hbv : vb ≠ b:=fun e=>hne (C.rok.apart r rv _ _ b hr hrv rfl rfl (occ_one rfl g1) (occ_one rfl (e ▸ g1')))
  obtain ⟨hrl,hK⟩:=setK_ok _ _ _ _ hK
  have hK:=pushK_ok _ _ _ _ hK
  rw [Nat.zero_add,List.length_set] at hK
  have hlA : (els.take i ++ x :: els.drop i).length = els.length + 1:=by simp; omega
  by_cases hc : els.length + 1 ≤ cap
  · refine (insF_in (m:=m) (vc:=cap') hbh hvh hbv a4 b4 a3 b3 hlt hl hc g3 a2 (by rw [b2]; simp at g2'; omega)).mono fun e w' he=>?_
    obtain ⟨A,rfl,hbel,hh,hs,hA⟩:=he
    have S':=C.sit.write a1 hbel hh
    have hnew : RowOK (R.put b (.cells A T fz)) m (q.add rows.length (some b,(els.take i ++ x :: els.drop i).length,cap,2)) rows.length (.row 2 (els.take i ++ x :: els.drop i)) :=
      ⟨some b,cap,add_self _ _ _,by rw [hlA]; exact hc,g3,(fun h=>by cases h),fun b' hb'=>by cases hb'; exact ⟨A,T,fz,by simp [Mem.put],by rw [hs,a2],hA,by rw [hs]; exact a4⟩⟩
    refine ⟨_,rfl,_,_,_,_,_,hK,C.move hr rfl g1 S' hnew,Mem.Le.refl m,C.le_add _,?_⟩
    have:=VR.own (m:=m) (add_self q rows.length (some b,(els.take i ++ x :: els.drop i).length,cap,2))
    rw [hlA] at this ⊢
    exact this
  · refine (insF_grow (m:=m) (vc:=cap') hbh hvh a3 b3 hlt hl g2 (by omega)).mono fun e w' he=>?_
    obtain ⟨A,nc,rfl,h1,h2,hbel,hh,hs,hA⟩:=he
    have C2:=(C.kill hr).rowG hbel hh (noFk0 2 _) hs (els:=els.take i ++ x :: els.drop i) (by rw [hlA]; exact h1) h2 hA
    rw [List.length_set] at C2
    refine ⟨_,rfl,_,_,_,_,_,hK,C2,Mem.Le.refl m,C.le_add _,?_⟩
    have:=VR.own (m:=m) (add_self q rows.length (some w.heap.size,(els.take i ++ x :: els.drop i).length,nc,2))
    rw [hlA] at this ⊢
    exact this
end Gv
namespace Gv
variable [Glob] [Laid]
theorem putF_ca : callable Tryz.prog 50 = true:=by kernel_rfl
def putF_S : Spec:=fun args K=>∃ (F : List FileS) (n b : Bs),args = [.sl fileV F,.str n,.sl byteV b] ∧ K (.tup [.sl fileV (putS F n b).1,.int .i64 (putS F n b).2])
noncomputable def putF_lib : List (Nat × Spec):=[(89,cfiles_S),(32,word_S),(125,placeF_S),(126,cloneB_S)]
noncomputable def putF_fns : List (Nat × FnI):=[(127,{ fn:=Tryz.f127,spec:=some insF_P })]
noncomputable def putF_prims : List (Nat × PSpec):=[(90,copyO_P)]
theorem putF_E : EnvOK ⟨Tryz.prog,tys,putF_lib,putF_fns,putF_prims,[]⟩:=env_ok mixed0 tys0 (.cons cfiles_ca cfiles_ok (.cons word_ca word_ok (.cons placeF_ca placeF_ok (.cons cloneB_ca cloneB_ok .nil)))) (.told insF_ca rfl insF_prim .nil) (.cons copyO_prim .nil) rfl
set_option maxHeartbeats 8000000 in
theorem putF_ok : Pure Tryz.prog 50 putF_S:=by
  refine pure_by putF_E 6 (fi:={fn:=Tryz.f50,hooks:=[],draws:=[]}) ⟨Tryz.func50,by kernel_rfl,by kernel_rfl⟩ ?_
  rintro _ K ⟨F,n,b,rfl,hK⟩
  replace hK : ∀ r,r = .tup [.sl fileV (putS F n b).1,.int .i64 (putS F n b).2] → K r:=fun r h=>h ▸ hK
  refine ⟨F,rfl,?_⟩
  repeat' first | (refine fun (b : Bool) hb=>?_; cases b <;> (first | exact absurd hb (by decide) | exact Bool.noConfusion (show true = false from hb) | exact Bool.noConfusion (show false = true from hb) | skip)) | fail
  rotate_left
  · have h0 : checkFiles F ≠ 0:=by simpa using ‹(!decide (checkFiles F = 0)) = true›
    refine ⟨FileS,fileV,?_⟩
    refine hK _ ?_
    unfold putS
    rw [if_pos h0]
  have h0 : checkFiles F = 0:=by simpa using ‹(!decide (checkFiles F = 0)) = false›
  obtain ⟨h12,hall⟩:=checkFiles_ok h0
  conv=>whnf
  refine ⟨n,rfl,?_⟩
  repeat' first | (refine fun (b : Bool) hb=>?_; cases b <;> (first | exact absurd hb (by decide) | exact Bool.noConfusion (show true = false from hb) | exact Bool.noConfusion (show false = true from hb) | skip)) | (refine fun (hl : _ ≤ MAXL)=>?_) | fail
  rotate_left
  · have h1 : isWord n = true:=by simpa using ‹(!isWord n) = false›
    have h2 : 4000 < b.length:=by
      have h:=of_decide_eq_true (by assumption : decide (4000 < (b.length : Int)) = true)
      omega
    conv=>whnf
    skip
    refine ⟨FileS,fileV,?_⟩
    refine hK _ ?_
    unfold putS
    rw [if_neg (by rw [h0]; decide),if_neg (by rw [h1]; decide),if_pos h2]
  · have h1 : isWord n = false:=by simpa using ‹(!isWord n) = true›
    conv=>whnf
    skip
    refine ⟨FileS,fileV,?_⟩
    refine hK _ ?_
    unfold putS
    rw [if_neg (by rw [h0]; decide),if_pos h1]
  have h1 : isWord n = true:=by simpa using ‹(!isWord n) = false›
  have h2 : ¬ 4000 < b.length:=by
    have h:=of_decide_eq_false (by assumption : decide (4000 < (b.length : Int)) = false)
    omega
  conv=>whnf
  skip
  refine ⟨F,n,rfl,?_⟩
  repeat' first | (refine fun (b : Bool) hb=>?_; cases b <;> (first | exact absurd hb (by decide) | exact Bool.noConfusion (show true = false from hb) | exact Bool.noConfusion (show false = true from hb) | skip)) | (refine fun (hl : _ ≤ MAXL)=>?_) | fail
  · have h3 : isAt F n = true:=by simpa using ‹(!isAt F n) = false›
    obtain ⟨hp,hn⟩:=isAt_lt h3
    have hpm : placeI F n < (F.map fileV).length:=by rw [List.length_map]; exact hp
    conv=>whnf
    skip
    conv=>whnf
    skip
    refine ⟨F,rfl,rfl,⟨by omega,fun f hf=>by have:=(hall f hf).2; omega⟩,?_⟩
    conv=>whnf
    skip
    refine ⟨b,rfl,by omega,?_⟩
    conv=>whnf
    repeat' first | (refine fun (b : Bool) hb=>?_; cases b <;> (first | exact absurd hb (by decide) | exact Bool.noConfusion (show true = false from hb) | exact Bool.noConfusion (show false = true from hb) | skip)) | refine ⟨rfl,?_⟩ | fail
    · exact absurd ((‹isAt F n = false› : isAt F n = false).symm.trans h3) (by decide)
    refine ⟨_,rfl,hpm,?_⟩
    conv=>whnf
    skip
    refine ⟨hpm,?_⟩
    conv=>whnf
    skip
    refine ⟨FileS,fileV,F.set (placeI F n) ⟨n,b⟩,by rw [List.map_set]; exact LeL.refl _,?_⟩
    refine hK _ ?_
    unfold putS putGo
    rw [if_neg (by rw [h0]; decide),if_neg (by rw [h1]; decide),if_neg h2,if_neg (fun h=>by rw [h.1] at h3; cases h3),if_pos h3]
  · have h3 : isAt F n = false:=by simpa using ‹(!isAt F n) = true›
    conv=>whnf
    skip
    conv=>whnf
    skip
    refine ⟨F,rfl,rfl,⟨by omega,fun f hf=>by have:=(hall f hf).2; omega⟩,?_⟩
    conv=>whnf
    skip
    refine ⟨b,rfl,by omega,?_⟩
    conv=>whnf
    repeat' first | (refine fun (b : Bool) hb=>?_; cases b <;> (first | exact absurd hb (by decide) | exact Bool.noConfusion (show true = false from hb) | exact Bool.noConfusion (show false = true from hb) | skip)) | refine ⟨rfl,?_⟩ | fail
    rotate_left
    · exact absurd ((‹isAt F n = true› : isAt F n = true).symm.trans h3) (by decide)
    conv=>whnf
    skip
    refine ⟨F.map fileV,.agg [.str n,.sl byteV b],placeI F n,0,2,rfl,by decide,rfl,rfl,by rw [List.length_map]; exact place_le F n,by rw [List.length_map]; omega,?_⟩
    conv=>whnf
    skip
    refine ⟨FileS,fileV,F.take (placeI F n) ++ ⟨n,b⟩ :: F.drop (placeI F n),by rw [List.map_append,List.map_cons,List.map_take,List.map_drop]; exact LeL.refl _,?_⟩
    refine hK _ ?_
    have h4 : ¬ F.length = 12:=by
      have h:=of_decide_eq_false (by assumption : decide ((F.length : Int) = 12) = false)
      omega
    unfold putS putGo
    rw [if_neg (by rw [h0]; decide),if_neg (by rw [h1]; decide),if_neg h2,if_neg (fun h=>h4 h.2),if_neg (by rw [h3]; decide)]
  · have h3 : isAt F n = false:=by simpa using ‹(!isAt F n) = true›
    have h4 : F.length = 12:=by
      have h:=of_decide_eq_true (by assumption : decide ((F.length : Int) = 12) = true)
      omega
    conv=>whnf
    skip
    refine ⟨FileS,fileV,?_⟩
    refine hK _ ?_
    unfold putS
    rw [if_neg (by rw [h0]; decide),if_neg (by rw [h1]; decide),if_neg h2,if_pos ⟨h3,h4⟩]
end Gv
namespace Gv
variable [Glob] [Laid] [Nums]
theorem runS_ca : callable Tryz.prog 56 = true:=by kernel_rfl
def runS_S : Spec:=fun args K=>∃ (F : List FileS) (s : List LineS),args = [.sl fileV F,.sl lineV s] ∧ K (.tup [.sl fileV (runL shellLine F s).1,.int .i64 (runL shellLine F s).2])
noncomputable def runS_lib : List (Nat × Spec):=[(89,cfiles_S),(43,scheckS_S),(90,copyF_S),(47,lineF_S),(50,putF_S)]
noncomputable def runS_fns : List (Nat × FnI):=[]
noncomputable def runS_prims : List (Nat × PSpec):=[]
theorem runS_E : EnvOK ⟨Tryz.prog,tys,runS_lib,runS_fns,runS_prims,[]⟩:=env_ok mixed0 tys0 (.cons cfiles_ca cfiles_ok (.cons scheckS_ca scheckS_ok (.cons copyF_ca copyF_ok (.cons lineF_ca lineF_ok (.cons putF_ca putF_ok .nil))))) .nil .nil rfl
set_option maxHeartbeats 8000000 in
theorem runS_ok : Pure Tryz.prog 56 runS_S:=by
  refine pure_by runS_E 6 (fi:={fn:=Tryz.f56,hooks:=[],draws:=[]}) ⟨Tryz.func56,by kernel_rfl,by kernel_rfl⟩ ?_
  rintro _ K ⟨F,s,rfl,hK⟩
  replace hK : ∀ r,r = .tup [.sl fileV (runL shellLine F s).1,.int .i64 (runL shellLine F s).2] → K r:=fun r h=>h ▸ hK
  refine ⟨F,rfl,?_⟩
  repeat' first | (refine fun (b : Bool) hb=>?_; cases b <;> (first | exact absurd hb (by decide) | exact Bool.noConfusion (show true = false from hb) | exact Bool.noConfusion (show false = true from hb) | skip)) | fail
  rotate_left
  · have h0 : checkFiles F ≠ 0:=by simpa using ‹(!decide (checkFiles F = 0)) = true›
    refine ⟨FileS,fileV,?_⟩
    refine hK _ ?_
    unfold runL
    rw [if_pos h0]
  have h0 : checkFiles F = 0:=by simpa using ‹(!decide (checkFiles F = 0)) = false›
  obtain ⟨h12,hall⟩:=checkFiles_ok h0
  conv=>whnf
  refine ⟨s,rfl,?_⟩
  repeat' first | (refine fun (b : Bool) hb=>?_; cases b <;> (first | exact absurd hb (by decide) | exact Bool.noConfusion (show true = false from hb) | exact Bool.noConfusion (show false = true from hb) | skip)) | fail
  rotate_left
  · have h1 : checkS s ≠ 0:=by simpa using ‹(!decide (checkS s = 0)) = true›
    refine ⟨FileS,fileV,?_⟩
    refine hK _ ?_
    unfold runL
    rw [if_neg (by rw [h0]; decide),if_pos h1]
  have h1 : checkS s = 0:=by simpa using ‹(!decide (checkS s = 0)) = false›
  have hone : ∀ r : List FileS × Int,runGoL shellLine F s = r → K (.tup [.sl fileV r.1,.int .i64 r.2]):=fun r h=>hK _ (by unfold runL; rw [if_neg (by rw [h0]; decide),if_neg (by rw [h1]; decide),h])
  conv=>whnf
  skip
  refine ⟨F,rfl,⟨by omega,fun f hf=>by have:=(hall f hf).2; omega⟩,?_⟩
  conv=>whnf
  repeat' first | (refine fun (hl : _ ≤ MAXL)=>?_) | fail
  conv=>whnf
  refine loop_live [24,25] (σ:=Nat × List FileS) (fun t=>[(26,.int .i64 t.1),(0,.sl fileV t.2)]) (fun _=>[]) (fun t=>t.1 ≤ s.length ∧ runGoL shellLine t.2 (s.drop t.1) = runGoL shellLine F s) (fun t=>s.length - t.1) (0,F) ?_
  conv=>whnf
  refine ⟨(by (refine wk_auto ?_; refine Sel4.mk rfl rfl ?_ ?_ <;> (repeat' (first | exact True.intro | exact rfl | exact Or.inl rfl | exact Or.inr rfl | refine And.intro ?_ ?_ | fail)))),⟨Nat.zero_le _,rfl⟩,fun t ht=>?_⟩
  obtain ⟨i,G⟩:=t
  obtain ⟨hi,hg⟩:=ht
  dsimp only at hi hg
  repeat' first | (refine fun (b : Bool) hb=>?_; cases b <;> (first | exact absurd hb (by decide) | exact Bool.noConfusion (show true = false from hb) | exact Bool.noConfusion (show false = true from hb) | skip)) | refine ⟨_,rfl,?_,rfl,?_⟩ | fail
  · have hge : ¬ (i : Int) < (s.length : Int):=of_decide_eq_false (by assumption)
    have e : s.drop i = []:=List.drop_eq_nil_of_le (by omega)
    rw [e] at hg
    conv=>whnf
    skip
    exact hone _ hg.symm
  · have h:=of_decide_eq_true (by assumption : decide ((i : Int) < (s.length : Int)) = true)
    show i < s.length
    omega
  have hlt : i < s.length:=by
    have h:=of_decide_eq_true (by assumption : decide ((i : Int) < (s.length : Int)) = true)
    omega
  rw [List.drop_eq_getElem_cons hlt,runGoL] at hg
  conv=>whnf
  skip
  refine ⟨G,s[i].frm,s[i].cmds,s[i].to,rfl,?_⟩
  rw [show (⟨s[i].frm,s[i].cmds,s[i].to⟩ : LineS) = s[i] from rfl]
  repeat' first | (refine fun (b : Bool) hb=>?_; cases b <;> (first | exact absurd hb (by decide) | exact Bool.noConfusion (show true = false from hb) | exact Bool.noConfusion (show false = true from hb) | skip)) | fail
  rotate_left
  · have h2 : (shellLine G s[i]).2 ≠ 0:=by simpa using ‹(!decide ((shellLine G s[i]).2 = 0)) = true›
    rw [if_pos h2] at hg
    conv=>whnf
    skip
    refine ⟨FileS,fileV,?_⟩
    exact hone _ hg.symm
  have h2 : (shellLine G s[i]).2 = 0:=by simpa using ‹(!decide ((shellLine G s[i]).2 = 0)) = false›
  rw [if_neg (by rw [h2]; decide)] at hg
  conv=>whnf
  skip
  refine ⟨G,s[i].to,(shellLine G s[i]).1,rfl,?_⟩
  repeat' first | (refine fun (b : Bool) hb=>?_; cases b <;> (first | exact absurd hb (by decide) | exact Bool.noConfusion (show true = false from hb) | exact Bool.noConfusion (show false = true from hb) | skip)) | refine And.intro (a:=I64 _) ?_ ?_ | fail
  · have hm : s.length ≤ MAXL:=by assumption
    unfold I64; unfold MAXL at hm
    dsimp only
    omega
  · have h3 : (putS G s[i].to (shellLine G s[i]).1).2 = 0:=by simpa using ‹(!decide ((putS G s[i].to (shellLine G s[i]).1).2 = 0)) = false›
    rw [if_neg (by rw [h3]; decide)] at hg
    conv=>whnf
    skip
    refine ⟨(i + 1,(putS G s[i].to (shellLine G s[i]).1).1),(by (refine wk_auto ?_; refine Sel4.mk rfl rfl ?_ ?_ <;> (repeat' (first | exact True.intro | exact rfl | exact Or.inl rfl | exact Or.inr rfl | refine And.intro ?_ ?_ | fail)))),⟨hlt,hg⟩,by show s.length - (i + 1) < s.length - i; omega⟩
  · have h3 : (putS G s[i].to (shellLine G s[i]).1).2 ≠ 0:=by simpa using ‹(!decide ((putS G s[i].to (shellLine G s[i]).1).2 = 0)) = true›
    rw [if_pos h3] at hg
    conv=>whnf
    skip
    refine ⟨FileS,fileV,?_⟩
    exact hone _ hg.symm
end Gv
namespace Gv
variable [Glob] [Laid] [Nums]
theorem shelledF_ca : callable Tryz.prog 48 = true:=by kernel_rfl
def shelledF_S : Spec:=fun args K=>args = [] ∧ K (.bool true)
noncomputable def shelledF_lib : List (Nat × Spec):=[(56,runS_S)]
noncomputable def shelledF_fns : List (Nat × FnI):=[]
noncomputable def shelledF_prims : List (Nat × PSpec):=[]
theorem shelledF_E : EnvOK ⟨Tryz.prog,tys,shelledF_lib,shelledF_fns,shelledF_prims,[]⟩:=env_ok mixed0 tys0 (.cons runS_ca runS_ok .nil) .nil .nil rfl
set_option maxHeartbeats 8000000 in
set_option maxRecDepth 10000 in
theorem shelledF_ok : Pure Tryz.prog 48 shelledF_S:=by
  refine pure_by shelledF_E 6 (fi:={fn:=Tryz.f48,hooks:=[],draws:=[]}) ⟨Tryz.func48,by kernel_rfl,by kernel_rfl⟩ ?_
  rintro _ K ⟨rfl,hK⟩
  replace hK : ∀ r,r = .bool true → K r:=fun r h=>h ▸ hK
  skip
  conv=>whnf
  refine ⟨[50,10,49],rfl,by decide,?_⟩
  skip
  refine ⟨[48],rfl,by decide,?_⟩
  skip
  first
    | refine ⟨Bs,strV,[[97],[98],[120]],LeL.refl _,?_⟩
    | refine ⟨Bs,strV,[[99]],LeL.refl _,?_⟩
    | refine ⟨Cmd,cmdV,[⟨6,[],0⟩],LeL.refl _,?_⟩
    | refine ⟨Cmd,cmdV,[⟨8,[],0⟩],LeL.refl _,?_⟩
    | refine ⟨FileS,fileV,[shA,shB],LeL.refl _,?_⟩
    | refine ⟨LineS,lineV,[shX,shY],LeL.refl _,?_⟩
  skip
  first
    | refine ⟨Bs,strV,[[97],[98],[120]],LeL.refl _,?_⟩
    | refine ⟨Bs,strV,[[99]],LeL.refl _,?_⟩
    | refine ⟨Cmd,cmdV,[⟨6,[],0⟩],LeL.refl _,?_⟩
    | refine ⟨Cmd,cmdV,[⟨8,[],0⟩],LeL.refl _,?_⟩
    | refine ⟨FileS,fileV,[shA,shB],LeL.refl _,?_⟩
    | refine ⟨LineS,lineV,[shX,shY],LeL.refl _,?_⟩
  skip
  first
    | refine ⟨Bs,strV,[[97],[98],[120]],LeL.refl _,?_⟩
    | refine ⟨Bs,strV,[[99]],LeL.refl _,?_⟩
    | refine ⟨Cmd,cmdV,[⟨6,[],0⟩],LeL.refl _,?_⟩
    | refine ⟨Cmd,cmdV,[⟨8,[],0⟩],LeL.refl _,?_⟩
    | refine ⟨FileS,fileV,[shA,shB],LeL.refl _,?_⟩
    | refine ⟨LineS,lineV,[shX,shY],LeL.refl _,?_⟩
  skip
  first
    | refine ⟨Bs,strV,[[97],[98],[120]],LeL.refl _,?_⟩
    | refine ⟨Bs,strV,[[99]],LeL.refl _,?_⟩
    | refine ⟨Cmd,cmdV,[⟨6,[],0⟩],LeL.refl _,?_⟩
    | refine ⟨Cmd,cmdV,[⟨8,[],0⟩],LeL.refl _,?_⟩
    | refine ⟨FileS,fileV,[shA,shB],LeL.refl _,?_⟩
    | refine ⟨LineS,lineV,[shX,shY],LeL.refl _,?_⟩
  skip
  first
    | refine ⟨Bs,strV,[[97],[98],[120]],LeL.refl _,?_⟩
    | refine ⟨Bs,strV,[[99]],LeL.refl _,?_⟩
    | refine ⟨Cmd,cmdV,[⟨6,[],0⟩],LeL.refl _,?_⟩
    | refine ⟨Cmd,cmdV,[⟨8,[],0⟩],LeL.refl _,?_⟩
    | refine ⟨FileS,fileV,[shA,shB],LeL.refl _,?_⟩
    | refine ⟨LineS,lineV,[shX,shY],LeL.refl _,?_⟩
  skip
  first
    | refine ⟨Bs,strV,[[97],[98],[120]],LeL.refl _,?_⟩
    | refine ⟨Bs,strV,[[99]],LeL.refl _,?_⟩
    | refine ⟨Cmd,cmdV,[⟨6,[],0⟩],LeL.refl _,?_⟩
    | refine ⟨Cmd,cmdV,[⟨8,[],0⟩],LeL.refl _,?_⟩
    | refine ⟨FileS,fileV,[shA,shB],LeL.refl _,?_⟩
    | refine ⟨LineS,lineV,[shX,shY],LeL.refl _,?_⟩
  skip
  refine ⟨[shA,shB],[shX,shY],rfl,?_⟩
  rw [sh_run2]
  repeat' first | (refine fun (b : Bool) hb=>?_; cases b <;> (first | exact absurd hb (by decide) | exact Bool.noConfusion (show true = false from hb) | exact Bool.noConfusion (show false = true from hb) | skip)) | (refine fun (hl : _ ≤ MAXL)=>?_) | refine ⟨_,rfl,?_,rfl,?_⟩ | refine ⟨_,(fun _=>rfl),rfl,?_⟩ | fail
  conv=>whnf
  skip
  · show 0 < 3; decide
  · show 2 < 3; decide
  conv=>whnf
  skip
  conv=>whnf
  exact hK _ rfl
end Gv
namespace Gv
variable [Glob] [Laid]
theorem atI_ca : callable Tryz.prog 49 = true:=by kernel_rfl
def atI_S : Spec:=fun args K=>∃ (k n : Int),args = [.int .i64 k,.int .i64 n] ∧ (I64 k ∧ 1 ≤ n ∧ n ≤ 1000000) ∧ K (.int .i64 (k % n))
noncomputable def atI_lib : List (Nat × Spec):=[]
noncomputable def atI_fns : List (Nat × FnI):=[]
noncomputable def atI_prims : List (Nat × PSpec):=[]
theorem atI_E : EnvOK ⟨Tryz.prog,tys,atI_lib,atI_fns,atI_prims,[]⟩:=env_ok mixed0 tys0 .nil .nil .nil rfl
set_option maxHeartbeats 4000000 in
theorem atI_ok : Pure Tryz.prog 49 atI_S:=by
  refine pure_by atI_E 6 (fi:={fn:=Tryz.f49,hooks:=[],draws:=[]}) ⟨Tryz.func49,by kernel_rfl,by kernel_rfl⟩ ?_
  rintro _ K ⟨k,n,rfl,⟨hk,h1,h2⟩,hK⟩
  replace hK : ∀ r,r = .int .i64 (k % n) → K r:=fun r h=>h ▸ hK
  have h3:=at_eq k n h1
  have h4:=Int.emod_lt_of_pos k (show 0 < n by omega)
  have h5:=Int.emod_nonneg k (show n ≠ 0 by omega)
  refine ⟨by omega,?_⟩
  repeat' first | (refine fun (b : Bool) hb=>?_; cases b <;> (first | exact absurd hb (by decide) | exact Bool.noConfusion (show true = false from hb) | exact Bool.noConfusion (show false = true from hb) | skip)) | refine And.intro (a:=I64 _) ?_ ?_ | fail
  · have h : ¬ k.tmod n < 0:=of_decide_eq_false (by assumption)
    rw [if_neg h] at h3
    rw [h3]
    exact hK _ rfl
  · have h : k.tmod n < 0:=of_decide_eq_true (by assumption)
    rw [if_pos h] at h3
    rw [h3]
    (first | omega | (unfold I64; omega) | (simp only [List.length_append,List.length_map,List.length_cons,List.length_nil,Nat.mul_one,Int.ofNat_eq_natCast] at *; omega) | (dsimp only at *; omega) | (unfold I64; dsimp only at *; omega) | (unfold I64; grind) | grind)
  · have h : k.tmod n < 0:=of_decide_eq_true (by assumption)
    rw [if_pos h] at h3
    conv=>whnf
    rw [h3]
    exact hK _ rfl
end Gv
namespace Gv
variable [Glob] [Laid]
theorem equalB_ca : callable Tryz.prog 24 = true:=by kernel_rfl
def equalB_S : Spec:=fun args K=>∃ a b : List UInt8,args = [.sl byteV a,.sl byteV b] ∧ K (.bool (decide (a = b)))
noncomputable def equalB_lib : List (Nat × Spec):=[]
noncomputable def equalB_fns : List (Nat × FnI):=[]
noncomputable def equalB_prims : List (Nat × PSpec):=[]
theorem equalB_E : EnvOK ⟨Tryz.prog,tys,equalB_lib,equalB_fns,equalB_prims,[]⟩:=env_ok mixed0 tys0 .nil .nil .nil rfl
set_option maxHeartbeats 4000000 in
theorem equalB_ok : Pure Tryz.prog 24 equalB_S:=by
  refine pure_by equalB_E 6 (fi:={fn:=Tryz.f24,hooks:=[],draws:=[(6,[0,0,3,7,0,0,48,112,255])]}) ⟨Tryz.func24,by kernel_rfl,by kernel_rfl⟩ ?_
  rintro _ K ⟨x,y,rfl,hK⟩
  replace hK : ∀ r,r = .bool (decide (x = y)) → K r:=fun r h=>h ▸ hK
  repeat' first | (refine fun (b : Bool) hb=>?_; cases b <;> (first | exact absurd hb (by decide) | exact Bool.noConfusion (show true = false from hb) | exact Bool.noConfusion (show false = true from hb) | skip)) | (refine fun (hl : _ ≤ MAXL)=>?_) | fail
  rotate_left
  · refine hK _ ?_
    congr 1
    grind
  conv=>whnf
  refine loop_intro (σ:=Nat) (fun i=>[(0,.sl byteV x),(1,.sl byteV y),(12,.int .i64 x.length),(13,.int .i64 i),(4,.lit false)]) (fun _=>[]) (fun i=>i ≤ x.length ∧ x.take i = y.take i) (fun i=>x.length - i) 0 (wk_sel [] rfl rfl trivial ?_) ⟨Nat.zero_le _,rfl⟩ ?_
  · (repeat' (first | exact True.intro | exact rfl | exact Or.inl rfl | exact Or.inr rfl | refine And.intro ?_ ?_ | fail))
  intro i ⟨hi,hI⟩
  repeat' first | (refine fun (b : Bool) hb=>?_; cases b <;> (first | exact absurd hb (by decide) | exact Bool.noConfusion (show true = false from hb) | exact Bool.noConfusion (show false = true from hb) | skip)) | refine And.intro (a:=I64 _) ?_ ?_ | refine ⟨_,⟨rfl,rfl⟩,?_⟩ | refine ⟨_,⟨_,rfl,?_,rfl,rfl,rfl⟩,?_⟩ | fail
  · refine hK _ ?_
    congr 1
    have e : x = y:=by
      have h1 : x.take i = x:=List.take_of_length_le (by grind)
      have h2 : y.take i = y:=List.take_of_length_le (by grind)
      rw [← h1,← h2,hI]
    simp [e]
  · grind
  · grind
  · unfold I64; grind
  · refine ⟨i + 1,?_,⟨?_,?_⟩,?_⟩
    · refine wk_sel [] rfl rfl trivial ?_
      (repeat' (first | exact True.intro | exact rfl | exact Or.inl rfl | exact Or.inr rfl | refine And.intro ?_ ?_ | fail))
    · grind
    · have g1 : i < x.length:=by grind
      have g2 : i < y.length:=by grind
      rw [List.take_succ_eq_append_getElem g1,List.take_succ_eq_append_getElem g2,hI]
      have e : x[i].toNat = y[i].toNat:=by grind
      rw [UInt8.toNat_inj.1 e]
    · grind
  · refine hK _ ?_
    congr 1
    grind
end Gv
namespace Gv
variable [Glob] [Laid]
theorem cloneFo0_ca : callable Tryz.prog 52 = true:=by kernel_rfl
def cloneFo0_P : PSpec:=fun args rows K=>∃ (l : List FileS),args = [.sl fileV l] ∧ rows = [] ∧ l.length ≤ 1000000 ∧ K (.own 1) [.dead,.row 2 (l.map fileV)] ∧ (l = [] → K .nil [])
noncomputable def cloneFo0_lib : List (Nat × Spec):=[]
noncomputable def cloneFo0_fns : List (Nat × FnI):=[]
noncomputable def cloneFo0_prims : List (Nat × PSpec):=[]
theorem cloneFo0_E : EnvOK ⟨Tryz.prog,tys,cloneFo0_lib,cloneFo0_fns,cloneFo0_prims,[]⟩:=env_ok mixed0 tys0 .nil .nil .nil rfl
set_option maxHeartbeats 4000000 in
theorem cloneFo0_prim : PrimOK Tryz.prog 52 cloneFo0_P:=by
  refine prim_by cloneFo0_E 6 cloneFo0_ca (fi:={fn:=Tryz.f52,hooks:=[],draws:=[]}) ⟨Tryz.func52,by kernel_rfl,by kernel_rfl⟩ ?_
  rintro args rows K ⟨l,rfl,rfl,hl,hK,hN⟩
  repeat' first | (refine fun (b : Bool) hb=>?_; cases b <;> (first | exact absurd hb (by decide) | exact Bool.noConfusion (show true = false from hb) | exact Bool.noConfusion (show false = true from hb) | skip)) | refine And.intro (a:=_ ≤ 140737488355328) ?_ ?_ | refine ⟨(fun _=>rfl),?_⟩ | fail
  · show (0 + (l.map fileV).length) * 40 ≤ 140737488355328
    rw [List.length_map]; omega
  · exact hK
  · have h : true = true → l = []:=by assumption
    exact hN (h rfl)
end Gv
namespace Gv
variable [Glob] [Laid]
def cloneFo_P : PSpec:=fun args rows K=>∃ (l : List FileS),args = [.sl fileV l] ∧ rows = [] ∧ l.length ≤ 1000000 ∧ K (.own 1) [.dead,.row 2 (l.map fileV)]
set_option maxHeartbeats 4000000 in
theorem cloneFo_prim : PrimOK Tryz.prog 52 cloneFo_P:=by
  intro w0 m0 args rows K R m q w us C hv hT
  obtain ⟨l,rfl,rfl,hl,hK⟩:=hT
  refine prim_nil cloneFo0_prim w0 m0 _ _ K R m q w us C hv ⟨l,rfl,rfl,hl,.inl hK,fun h=>.inr ⟨rfl,2,?_⟩⟩
  subst h
  exact hK
end Gv
namespace Gv
variable [Glob] [Laid]
theorem containsT_ca : callable Tryz.prog 54 = true:=by kernel_rfl
def containsT_S : Spec:=fun args K=>∃ (l : List Bs) (c : Bs),args = [.sl strV l,.str c] ∧ K (.bool (decide (c ∈ l)))
noncomputable def containsT_lib : List (Nat × Spec):=[]
noncomputable def containsT_fns : List (Nat × FnI):=[(116,{fn:=Tryz.f116,hooks:=[],draws:=[]})]
noncomputable def containsT_prims : List (Nat × PSpec):=[]
theorem containsT_E : EnvOK ⟨Tryz.prog,tys,containsT_lib,containsT_fns,containsT_prims,[]⟩:=env_ok mixed0 tys0 .nil (.cons (by kernel_rfl) ⟨Tryz.func116,by kernel_rfl,by kernel_rfl⟩ .nil) .nil rfl
set_option maxHeartbeats 4000000 in
theorem containsT_ok : Pure Tryz.prog 54 containsT_S:=by
  refine pure_by containsT_E 6 (fi:={fn:=Tryz.f54,hooks:=[],draws:=[]}) ⟨Tryz.func54,by kernel_rfl,by kernel_rfl⟩ ?_
  rintro _ K ⟨l,c,rfl,hK⟩
  replace hK : ∀ r,r = .bool (decide (c ∈ l)) → K r:=fun r h=>h ▸ hK
  refine fun (hl : _ ≤ MAXL)=>?_
  conv=>whnf
  refine loop_live [0,1,7] (σ:=Nat) (fun i=>[(8,.int .i64 i)]) (fun i=>[]) (fun i=>i ≤ l.length ∧ c ∉ l.take i) (fun i=>l.length - i) 0 ?_
  conv=>whnf
  refine ⟨(by (refine wk_auto ?_; refine Sel4.mk rfl rfl ?_ ?_ <;> (repeat' (first | exact True.intro | exact rfl | exact Or.inl rfl | exact Or.inr rfl | refine And.intro ?_ ?_ | fail)))),⟨Nat.zero_le _,by simp⟩,fun i hi=>?_⟩
  obtain ⟨hi,hc⟩:=hi
  repeat' first | (refine fun (b : Bool) hb=>?_; cases b <;> (first | exact absurd hb (by decide) | exact Bool.noConfusion (show true = false from hb) | exact Bool.noConfusion (show false = true from hb) | skip)) | refine And.intro (a:=I64 _) ?_ ?_ | refine ⟨_,rfl,?_,rfl,?_⟩ | fail
  · refine hK _ ?_
    have e : l.take i = l:=List.take_of_length_le (by grind)
    rw [e] at hc
    simp [hc]
  · grind
  · (first | omega | (unfold I64; omega) | (simp only [List.length_append,List.length_map,List.length_cons,List.length_nil,Nat.mul_one,Int.ofNat_eq_natCast] at *; omega) | (dsimp only at *; omega) | (unfold I64; dsimp only at *; omega) | (unfold I64; grind) | grind)
  · have hi2 : i < l.length:=by grind
    refine ⟨i + 1,(by (refine wk_auto ?_; refine Sel4.mk rfl rfl ?_ ?_ <;> (repeat' (first | exact True.intro | exact rfl | exact Or.inl rfl | exact Or.inr rfl | refine And.intro ?_ ?_ | fail)))),⟨by grind,?_⟩,by grind⟩
    rw [List.take_succ_eq_append_getElem hi2]
    simp only [List.mem_append,List.mem_singleton,not_or]
    refine ⟨hc,fun e=>?_⟩
    subst e
    simp at *
  · have hi2 : i < l.length:=by grind
    refine hK _ ?_
    have e : c = l[i]:=by grind
    have h1 : decide (c ∈ l) = true:=by
      rw [e]
      simp
    have h2 : decide ((0 : Int) ≤ (i : Int)) = true:=by simp
    rw [h1,h2]
end Gv
namespace Gv
variable [Glob] [Laid]
def fewL (f : List Bs) (F : List FileS) : List FileS:=F.filter fun x=>decide (x.name ∈ f)
theorem fewL_take {f : List Bs} {F : List FileS} {j : Nat} (h : j < F.length) : fewL f (F.take (j + 1)) = if F[j].name ∈ f then fewL f (F.take j) ++ [F[j]] else fewL f (F.take j):=by
  unfold fewL
  rw [List.take_succ_eq_append_getElem h,List.filter_append,List.filter_cons]
  split
  · rename_i h1
    rw [if_pos (by simpa using h1)]; rfl
  · rename_i h1
    rw [if_neg (by simpa using h1)]; simp
theorem delF_ca : callable Tryz.prog 51 = true:=by kernel_rfl
def delF_P : PSpec:=fun args rows K=>∃ (F : List FileS) (f : List Bs) (c : List Cmd) (t : Bs),args = [.own 0,.fn 53 [.ptr 1 0 0]] ∧ rows = [.row 2 (F.map fileV),.box [.sl strV f,.sl cmdV c,.str t]] ∧ F.length ≤ 1000 ∧ (fewL f F = F → K (.own 0) [.row 2 (F.map fileV),.box [.sl strV f,.sl cmdV c,.str t]]) ∧ K (.own 2) [.dead,.box [.sl strV f,.sl cmdV c,.str t],.row 2 ((fewL f F).map fileV)]
noncomputable def delF_lib : List (Nat × Spec):=[(54,containsT_S)]
noncomputable def delF_fns : List (Nat × FnI):=[(128,{fn:=Tryz.f128,hooks:=[],draws:=[]}),(53,{fn:=Tryz.f53,hooks:=[],draws:=[]})]
noncomputable def delF_prims : List (Nat × PSpec):=[]
theorem delF_E : EnvOK ⟨Tryz.prog,tys,delF_lib,delF_fns,delF_prims,[]⟩:=env_ok mixed0 tys0 (.cons containsT_ca containsT_ok .nil) (.cons (by kernel_rfl) ⟨Tryz.func128,by kernel_rfl,by kernel_rfl⟩ (.cons (by kernel_rfl) ⟨Tryz.func53,by kernel_rfl,by kernel_rfl⟩ .nil)) .nil rfl
set_option maxHeartbeats 16000000 in
theorem delF_prim : PrimOK Tryz.prog 51 delF_P:=by
  refine prim_by delF_E 6 delF_ca (fi:={fn:=Tryz.f51,hooks:=[100011],draws:=[]}) ⟨Tryz.func51,by kernel_rfl,by kernel_rfl⟩ ?_
  rintro args rows K ⟨F,f,c,t,rfl,rfl,h1000,hK1,hK2⟩
  have hgF : ∀ {j : Nat} (h : j < F.length),(F.map fileV)[j]? = some (fileV F[j]):=fun h=>by rw [List.getElem?_map,List.getElem?_eq_getElem h]; rfl
  have hlm : (F.map fileV).length = F.length:=List.length_map _
  repeat' first | (refine fun (hl : _ ≤ MAXL)=>?_) | fail
  conv=>whnf
  refine loop_live [0,1,7] (σ:=Nat) (fun i=>[(8,.int .i64 i)]) (fun _=>[.row 2 (F.map fileV),.box [.sl strV f,.sl cmdV c,.str t]]) (fun i=>i ≤ F.length ∧ ∀ j (h : j < F.length),j < i → F[j].name ∈ f) (fun i=>F.length - i) 0 ?_
  conv=>whnf
  refine ⟨(by (refine wk_auto ?_; refine Sel4.mk rfl rfl ?_ ?_ <;> (repeat' (first | exact True.intro | exact rfl | exact Or.inl rfl | exact Or.inr rfl | refine And.intro ?_ ?_ | fail)))),⟨Nat.zero_le _,fun j h h'=>by omega⟩,fun i hi=>?_⟩
  obtain ⟨hi,hall⟩:=hi
  repeat' first | (refine fun (b : Bool) hb=>?_; cases b <;> (first | exact absurd hb (by decide) | exact Bool.noConfusion (show true = false from hb) | exact Bool.noConfusion (show false = true from hb) | skip)) | refine ⟨rfl,?_⟩ | fail
  · have hge:=of_decide_eq_false (by assumption : decide ((i : Int) < ((F.map fileV).length : Int)) = false)
    rw [hlm] at hge
    have e : fewL f F = F:=by
      unfold fewL
      rw [List.filter_eq_self]
      intro x hx
      obtain ⟨j,hj,rfl⟩:=List.getElem_of_mem hx
      simpa using hall j hj (by omega)
    conv=>whnf
    skip
    exact hK1 e
  have hlt : i < F.length:=by
    have h:=of_decide_eq_true (by assumption : decide ((i : Int) < ((F.map fileV).length : Int)) = true)
    rw [hlm] at h
    omega
  refine ⟨i,rfl,by rw [hlm]; exact hlt,?_⟩
  conv=>whnf
  refine ⟨_,hgF hlt,?_⟩
  skip
  conv=>whnf
  skip
  refine ⟨f,F[i].name,rfl,?_⟩
  repeat' first | (refine fun (b : Bool) hb=>?_; cases b <;> (first | exact absurd hb (by decide) | exact Bool.noConfusion (show true = false from hb) | exact Bool.noConfusion (show false = true from hb) | skip)) | refine And.intro (a:=I64 _) ?_ ?_ | fail
  · unfold I64; omega
  · have hin : F[i].name ∈ f:=by simpa using ‹(!decide (F[i].name ∈ f)) = false›
    conv=>whnf
    skip
    refine ⟨i + 1,(by (refine wk_auto ?_; refine Sel4.mk rfl rfl ?_ ?_ <;> (repeat' (first | exact True.intro | exact rfl | exact Or.inl rfl | exact Or.inr rfl | refine And.intro ?_ ?_ | fail)))),⟨hlt,fun j hj hj2=>?_⟩,by omega⟩
    rcases Nat.lt_or_ge j i with h | h
    · exact hall j hj h
    · have : j = i:=by omega
      subst this
      exact hin
  · unfold I64; omega
  have hnin : ¬ F[i].name ∈ f:=by simpa using ‹(!decide (F[i].name ∈ f)) = true›
  have e0 : fewL f (F.take (i + 1)) = F.take i:=by
    rw [fewL_take hlt,if_neg hnin]
    unfold fewL
    rw [List.filter_eq_self]
    intro x hx
    obtain ⟨j,hj,rfl⟩:=List.getElem_of_mem hx
    rw [List.length_take] at hj
    rw [List.getElem_take]
    simpa using hall j (by omega) (by omega)
  conv=>whnf
  skip
  conv=>whnf
  refine loop_live [0,1] (σ:=Nat × Nat × List FileS) (fun s=>[(5,.int .i64 s.2.1),(6,.int .i64 s.1)]) (fun s=>[.row 2 (s.2.2.map fileV),.box [.sl strV f,.sl cmdV c,.str t]]) (fun s=>s.1 ≤ F.length ∧ s.2.2.length = F.length ∧ s.2.1 = (fewL f (F.take s.1)).length ∧ s.2.2.take s.2.1 = fewL f (F.take s.1) ∧ s.2.2.drop s.1 = F.drop s.1 ∧ s.2.1 < s.1) (fun s=>F.length - s.1) (i + 1,i,F) ?_
  conv=>whnf
  refine ⟨(by (refine wk_auto ?_; refine Sel4.mk rfl rfl ?_ ?_ <;> (repeat' (first | exact True.intro | exact rfl | exact Or.inl rfl | exact Or.inr rfl | refine And.intro ?_ ?_ | fail)))),⟨hlt,rfl,by rw [e0,List.length_take]; show i = min i F.length; omega,by rw [e0],rfl,Nat.lt_succ_self i⟩,fun s hs=>?_⟩
  obtain ⟨j,k,G⟩:=s
  obtain ⟨hj,hGl,hk,hGt,hGd,hkj⟩:=hs
  dsimp only at hj hGl hk hGt hGd hkj
  have hGm : (G.map fileV).length = F.length:=by rw [List.length_map,hGl]
  repeat' first | (refine fun (b : Bool) hb=>?_; cases b <;> (first | exact absurd hb (by decide) | exact Bool.noConfusion (show true = false from hb) | exact Bool.noConfusion (show false = true from hb) | skip)) | (refine fun (hl : _ ≤ MAXL)=>?_) | refine ⟨rfl,?_⟩ | fail
  · have hge:=of_decide_eq_false (by assumption : decide ((j : Int) < ((G.map fileV).length : Int)) = false)
    rw [hGm] at hge
    have hje : j = F.length:=by omega
    subst hje
    rw [List.take_length] at hk hGt
    have hkl : k ≤ (G.map fileV).length:=by rw [hGm]; omega
    conv=>whnf
    refine clear_sem (i:=k) (zx:=.agg [.str [],.nil]) rfl rfl rfl rfl rfl rfl rfl rfl rfl rfl rfl rfl rfl ⟨by decide,by decide,by decide,by decide⟩ Tryz.underlying22 (show tyOf Tryz.prog 67 = some (.agg #[.string ⟨#[]⟩,.slice none 0 0],2,40,true) by kernel_rfl) rfl
      ⟨rfl,fun x v u e e'=>?_⟩ (fun u hu=>?_) rfl rfl rfl hkl rfl rfl rfl ?_
    · match x,e,e' with
      | 0,e,e'=>cases e; cases e'; exact .str (s:=[]) (Nat.zero_le _)
      | 1,e,e'=>cases e; cases e'; exact .nil
    · simp [Value.cells] at hu
      rcases hu with rfl | rfl <;> rfl
    conv=>whnf
    skip
    refine ⟨k,rfl,by simp; omega,?_⟩
    conv=>whnf
    skip
    have e : List.take k (List.take k (G.map fileV) ++ List.replicate ((G.map fileV).length - k) (V.agg [V.str [],V.nil])) = (fewL f F).map fileV:=by
      rw [List.take_append_of_le_length (by rw [List.length_take]; omega),List.take_take,Nat.min_self,← List.map_take,hGt]
    show K (.own 2) [.dead,_,.row 2 (List.take k (List.take k (G.map fileV) ++ List.replicate ((G.map fileV).length - k) (V.agg [V.str [],V.nil])))]
    rw [e]
    exact hK2
  have hlj : j < F.length:=by
    have h:=of_decide_eq_true (by assumption : decide ((j : Int) < ((G.map fileV).length : Int)) = true)
    rw [hGm] at h
    omega
  have hGj : (G.map fileV)[j]? = some (fileV F[j]):=by
    have h1 : G[j]? = F[j]?:=by
      have:=congrArg (fun l=>l[0]?) hGd
      simpa [List.getElem?_drop] using this
    rw [List.getElem?_map,h1,List.getElem?_eq_getElem hlj]; rfl
  refine ⟨j,rfl,by show j < (G.map fileV).length; omega,?_⟩
  conv=>whnf
  refine ⟨_,hGj,?_⟩
  skip
  conv=>whnf
  skip
  refine ⟨f,F[j].name,rfl,?_⟩
  repeat' first | (refine fun (b : Bool) hb=>?_; cases b <;> (first | exact absurd hb (by decide) | exact Bool.noConfusion (show true = false from hb) | exact Bool.noConfusion (show false = true from hb) | skip)) | refine And.intro (a:=I64 _) ?_ ?_ | refine ⟨rfl,?_⟩ | fail
  · unfold I64; dsimp only; omega
  · have hnj : ¬ F[j].name ∈ f:=by simpa using (by assumption : (!(!decide (F[j].name ∈ f))) = false)
    conv=>whnf
    skip
    refine ⟨(j + 1,k,G),(by (refine wk_auto ?_; refine Sel4.mk rfl rfl ?_ ?_ <;> (repeat' (first | exact True.intro | exact rfl | exact Or.inl rfl | exact Or.inr rfl | refine And.intro ?_ ?_ | fail)))),⟨hlj,hGl,?_,?_,?_,by show k < j + 1; omega⟩,by show F.length - (j + 1) < F.length - j; omega⟩
    · show k = _
      rw [fewL_take hlj,if_neg hnj]; exact hk
    · show G.take k = _
      rw [fewL_take hlj,if_neg hnj]; exact hGt
    · show G.drop (j + 1) = F.drop (j + 1)
      rw [← List.drop_drop,hGd,List.drop_drop]
  have hij : F[j].name ∈ f:=by simpa using (by assumption : (!(!decide (F[j].name ∈ f))) = true)
  have hkG : k < (G.map fileV).length:=by omega
  refine ⟨k,rfl,hkG,?_⟩
  conv=>whnf
  skip
  refine ⟨hkG,?_⟩
  conv=>whnf
  repeat' first | refine And.intro (a:=I64 _) ?_ ?_ | fail
  · unfold I64; dsimp only; omega
  conv=>whnf
  skip
  · dsimp only; omega
  conv=>whnf
  skip
  have hfl : (fewL f (F.take (j + 1))) = fewL f (F.take j) ++ [F[j]]:=by rw [fewL_take hlj,if_pos hij]
  have hkl : k < G.length:=by omega
  refine ⟨(j + 1,k + 1,G.set k F[j]),?_,⟨hlj,by rw [List.length_set]; exact hGl,?_,?_,?_,by show k + 1 < j + 1; omega⟩,by show F.length - (j + 1) < F.length - j; omega⟩
  · (refine wk_auto ?_; refine Sel4.mk rfl rfl ?_ ?_ <;> (repeat' (first | exact True.intro | exact rfl | exact Or.inl rfl | exact Or.inr rfl | refine And.intro ?_ ?_ | fail)))
    show Row.row 2 _ = Row.row 2 _
    rw [List.map_set]
    rfl
  · show k + 1 = _
    rw [hfl,List.length_append,← hk]; rfl
  · show (G.set k F[j]).take (k + 1) = _
    rw [hfl,List.take_succ_eq_append_getElem (by rw [List.length_set]; exact hkl),List.getElem_set_self,List.take_set_of_le (Nat.le_refl k),hGt]
  · show (G.set k F[j]).drop (j + 1) = F.drop (j + 1)
    rw [List.drop_set_of_lt (by omega),← List.drop_drop,hGd,List.drop_drop]
end Gv
namespace Gv
variable [Glob] [Laid] [Nums]
theorem numK5 {n : Nat} {k : Nat → Prop} (h : k n) : numK n k:=by
  unfold numK
  split <;> exact h
theorem pushK5 : ∀ (l : Rows) (n : Nat) (y : Row) (k : Nat → Rows → Prop),k (n + l.length) (l ++ [y]) → pushK n l y k
  | [],n,y,k,h=>numK5 h
  | x :: r, n, y, k, h => pushK5 r (n + 1) y _ (by
      show k (n + 1 + r.length) (x :: (r ++ [y]))
      rw [show n + 1 + r.length = n + (x :: r).length by simp; omega]
      exact h)
theorem setK5 : ∀ (l : Rows) (i : Nat) (y : Row) (k : Rows → Prop),i < l.length → k (l.set i y) → setK l i y k
  | x :: r,0,y,k,_,h=>h
  | x :: r,n + 1,y,k,hl,h=>setK5 r n y _ (by simpa using hl) h
  | [],n,y,k,hl,h=>by simp at hl
theorem evO5 {L : VSlots} {t : Nat} {v : V} {k : V → Prop} (h : look L t = some v) (hk : k v) : evO L (.tmp t) k:=by
  show (match look L t with | some v=>k v | none=>False)
  rw [h]
  exact hk
abbrev c5 (f : List Bs) (c : List Cmd) (t : Bs) : List V:=[.sl strV f,.sl cmdV c,.str t]
noncomputable abbrev e5 : Env:=⟨Tryz.prog,tys,[],[],[],[]⟩
theorem e5_ok : EnvOK e5:=env_ok mixed0 tys0 .nil .nil .nil rfl
theorem load5 {f : List Bs} {c : List Cmd} {t : Bs} {rows : Rows} {Q : V → Prop} (h : nth rows 0 = some (.box (c5 f c t))) (hQ : Q (.agg (c5 f c t))) : loadO e5 27 (.ptr 0 0 0) rows Q:=by
  unfold loadO
  conv=>whnf
  rw [h]
  conv=>whnf
  exact hQ
theorem store5 {f : List Bs} {c : List Cmd} {t : Bs} {rows : Rows} {r : Nat} {x y z : V} {Q : Rows → Prop} (h : nth rows r = some (.box [x,y,z])) (hQ : Q (rows.set r (.box (c5 f c t)))) : storeO e5 27 (.ptr r 0 0) (.agg (c5 f c t)) rows Q:=by
  unfold storeO
  conv=>whnf
  rw [h]
  conv=>whnf
  exact setK5 _ _ _ _ (by rw [nth_eq] at h; exact (List.getElem?_eq_some_iff.1 h).1) hQ
theorem alloc5 {rows : Rows} {Q : V → Rows → Prop} {call : CallT} {L : VSlots} (hQ : ∀ x y z,Q (.ptr rows.length 0 0) (rows ++ [.box [x,y,z]])) : xop e5 call true L rows (.alloc 27) Q:=by
  conv=>whnf
  refine pushK5 _ _ _ _ ?_
  rw [Nat.zero_add]
  exact hQ _ _ _
structure I5 (f : List Bs) (c : List Cmd) (t : Bs) (L0 : VSlots) (sel : Nat → Bool) (L : VSlots) (rows : Rows) : Prop where
  keep : ∀ j v,look L0 j = some v → look L j = some v
  b0 : nth rows 0 = some (.box (c5 f c t))
  len : rows.length = 1 + (if sel 2 = true then 1 else 0) + (if sel 3 = true then 1 else 0)
  t0 : sel 0 = true → look L 36 = some (.agg (c5 f c t))
  t1 : sel 1 = true → look L 37 = some (.agg (c5 f c t))
  d4 : sel 4 = true → sel 2 = true
  d5 : sel 5 = true → sel 3 = true
  t2 : sel 2 = true → ∃ r x y z,look L 9 = some (.ptr r 0 0) ∧ nth rows r = some (.box [x,y,z]) ∧ (sel 4 = true → [x,y,z] = c5 f c t) ∧ 1 ≤ r
  t3 : sel 3 = true → ∃ r x y z,look L 10 = some (.ptr r 0 0) ∧ nth rows r = some (.box [x,y,z]) ∧ (sel 5 = true → [x,y,z] = c5 f c t) ∧ 1 ≤ r
  ne : sel 2 = true → sel 3 = true → look L 9 ≠ look L 10
theorem look_put {L : VSlots} {d j : Nat} {v : V} (h : d ≠ j) : look ((d,v) :: L) j = look L j:=by
  show (match Nat.beq d j with | true=>some v | false=>look L j) = _
  cases hb : Nat.beq d j with
  | false=>rfl
  | true=>exact absurd (Nat.eq_of_beq_eq_true hb) h
theorem look_new {L : VSlots} {d : Nat} {v : V} : look ((d,v) :: L) d = some v:=by
  show (match Nat.beq d d with | true=>some v | false=>look L d) = _
  rw [Nat.beq_refl]
theorem setF_of {sel : Nat → Bool} {i j : Nat} (h : j ≠ i) : setF sel i j = sel j:=by
  unfold setF
  cases hb : Nat.beq j i with
  | false=>rfl
  | true=>exact absurd (Nat.eq_of_beq_eq_true hb) h
theorem nth_app5 {rows : Rows} {j : Nat} {y x : Row} (h : nth rows j = some x) : nth (rows ++ [y]) j = some x:=by
  rw [nth_eq] at h ⊢
  rw [List.getElem?_append_left (List.getElem?_eq_some_iff.1 h).1]
  exact h
theorem nth_new5 {rows : Rows} {y : Row} : nth (rows ++ [y]) rows.length = some y:=by
  rw [nth_eq]
  simp
theorem nth_lt5 {rows : Rows} {j : Nat} {x : Row} (h : nth rows j = some x) : j < rows.length:=by
  rw [nth_eq] at h; exact (List.getElem?_eq_some_iff.1 h).1
theorem nth_set5 {rows : Rows} {i j : Nat} {y x : Row} (h : nth rows j = some x) (hn : i ≠ j) : nth (rows.set i y) j = some x:=by
  rw [nth_eq] at h ⊢
  rw [List.getElem?_set_ne hn]
  exact h
theorem nth_self5 {rows : Rows} {i : Nat} {y x : Row} (h : nth rows i = some x) : nth (rows.set i y) i = some y:=by
  have:=nth_lt5 h
  rw [nth_eq]; simp [this]
theorem step5 {f : List Bs} {c : List Cmd} {t : Bs} {L0 : VSlots} {ops : Array Oper} {o0 o1 o2 o3 o4 o5 : Oper} {call : CallT} (hops : ops = #[o0, o1, o2, o3, o4, o5])
    (p0 : o0.op = .load 27 (.tmp 4)) (q0 : o0.dst = some 36) (r0 : o0.guard = none)
    (p1 : o1.op = .load 27 (.tmp 4)) (q1 : o1.dst = some 37) (r1 : o1.guard = none)
    (p2 : o2.op = .alloc 27) (q2 : o2.dst = some 9) (r2 : o2.guard = none)
    (p3 : o3.op = .alloc 27) (q3 : o3.dst = some 10) (r3 : o3.guard = none)
    (p4 : o4.op = .store 27 (.tmp 9) (.tmp 36)) (q4 : o4.dst = none) (r4 : o4.guard = none)
    (p5 : o5.op = .store 27 (.tmp 10) (.tmp 37)) (q5 : o5.dst = none) (r5 : o5.guard = none)
    (a42 : ∃ e ∈ o4.after,Region.binds .any e = true ∧ e.on = 2) (a40 : ∃ e ∈ o4.after,Region.binds .any e = true ∧ e.on = 0)
    (a53 : ∃ e ∈ o5.after,Region.binds .any e = true ∧ e.on = 3) (a51 : ∃ e ∈ o5.after,Region.binds .any e = true ∧ e.on = 1)
    (h4 : look L0 4 = some (.ptr 0 0 0)) (n36 : look L0 36 = none) (n37 : look L0 37 = none) (n9 : look L0 9 = none) (n10 : look L0 10 = none) :
    AnyStep e5 call ops (I5 f c t L0):=by
  have kp : ∀ {L : VSlots} {d : Nat} {v : V},look L0 d = none → (∀ j v,look L0 j = some v → look L j = some v) → ∀ j w,look L0 j = some w → look ((d,v) :: L) j = some w:=fun hd hk j w hj=>by
    rw [look_put (fun e=>by subst e; rw [hd] at hj; cases hj)]
    exact hk j w hj
  intro sel L rows i o ho hs hall I
  subst hops
  have hi : i < 6:=(Array.getElem?_eq_some_iff.1 ho).1
  have hi2 : i = 0 ∨ i = 1 ∨ i = 2 ∨ i = 3 ∨ i = 4 ∨ i = 5:=by omega
  rcases hi2 with rfl | rfl | rfl | rfl | rfl | rfl
  · obtain rfl:=Option.some.inj (show some o0 = some o from ho)
    refine ⟨r0,?_⟩
    rw [p0,q0]
    refine evO5 (I.keep 4 _ h4) ?_
    refine load5 I.b0 ?_
    refine ⟨kp n36 I.keep,I.b0,I.len,fun _=>look_new,fun h=>?_,I.d4,I.d5,fun h=>?_,fun h=>?_,fun h h'=>?_⟩
    · exact (look_put (by decide)).trans (I.t1 h)
    · obtain ⟨r,x,y,z,g1,g2⟩:=I.t2 h
      exact ⟨r,x,y,z,(look_put (by decide)).trans g1,g2⟩
    · obtain ⟨r,x,y,z,g1,g2⟩:=I.t3 h
      exact ⟨r,x,y,z,(look_put (by decide)).trans g1,g2⟩
    · show look ((36,_) :: L) 9 ≠ look ((36,_) :: L) 10
      rw [look_put (by decide),look_put (by decide)]
      exact I.ne h h'
  · obtain rfl:=Option.some.inj (show some o1 = some o from ho)
    refine ⟨r1,?_⟩
    rw [p1,q1]
    refine evO5 (I.keep 4 _ h4) ?_
    refine load5 I.b0 ?_
    refine ⟨kp n37 I.keep,I.b0,I.len,fun h=>?_,fun _=>look_new,I.d4,I.d5,fun h=>?_,fun h=>?_,fun h h'=>?_⟩
    · exact (look_put (by decide)).trans (I.t0 h)
    · obtain ⟨r,x,y,z,g1,g2⟩:=I.t2 h
      exact ⟨r,x,y,z,(look_put (by decide)).trans g1,g2⟩
    · obtain ⟨r,x,y,z,g1,g2⟩:=I.t3 h
      exact ⟨r,x,y,z,(look_put (by decide)).trans g1,g2⟩
    · show look ((37,_) :: L) 9 ≠ look ((37,_) :: L) 10
      rw [look_put (by decide),look_put (by decide)]
      exact I.ne h h'
  · obtain rfl:=Option.some.inj (show some o2 = some o from ho)
    have s4 : sel 4 = false:=by
      cases h : sel 4 with
      | false=>rfl
      | true=>have:=I.d4 h; rw [hs] at this; cases this
    refine ⟨r2,?_⟩
    rw [p2,q2]
    refine alloc5 fun x y z=>?_
    refine ⟨kp n9 I.keep,nth_app5 I.b0,?_,fun h=>?_,fun h=>?_,fun h=>?_,I.d5,fun h=>?_,fun h=>?_,fun h h'=>?_⟩
    · rw [List.length_append,I.len,hs,setF_eq,setF_of (by decide)]
      simp; omega
    · exact (look_put (by decide)).trans (I.t0 h)
    · exact (look_put (by decide)).trans (I.t1 h)
    · exact setF_eq _ _
    · exact ⟨_,x,y,z,look_new,nth_new5,fun h=>absurd (show sel 4 = true from h) (by rw [s4]; decide),by have:=nth_lt5 I.b0; omega⟩
    · obtain ⟨r,x,y,z,g1,g2,g3⟩:=I.t3 h
      exact ⟨r,x,y,z,(look_put (by decide)).trans g1,nth_app5 g2,g3⟩
    · obtain ⟨r,x',y',z',g1,g2,g3⟩:=I.t3 h'
      show look ((9,_) :: L) 9 ≠ look ((9,_) :: L) 10
      rw [look_new,look_put (by decide),g1]
      intro e
      have:=nth_lt5 g2
      cases e; omega
  · obtain rfl:=Option.some.inj (show some o3 = some o from ho)
    have s5 : sel 5 = false:=by
      cases h : sel 5 with
      | false=>rfl
      | true=>have:=I.d5 h; rw [hs] at this; cases this
    refine ⟨r3,?_⟩
    rw [p3,q3]
    refine alloc5 fun x y z=>?_
    refine ⟨kp n10 I.keep,nth_app5 I.b0,?_,fun h=>?_,fun h=>?_,I.d4,fun h=>?_,fun h=>?_,fun h=>?_,fun h h'=>?_⟩
    · rw [List.length_append,I.len,hs,setF_eq,setF_of (by decide)]
      simp
    · exact (look_put (by decide)).trans (I.t0 h)
    · exact (look_put (by decide)).trans (I.t1 h)
    · exact setF_eq _ _
    · obtain ⟨r,x,y,z,g1,g2,g3⟩:=I.t2 h
      exact ⟨r,x,y,z,(look_put (by decide)).trans g1,nth_app5 g2,g3⟩
    · exact ⟨_,x,y,z,look_new,nth_new5,fun h=>absurd (show sel 5 = true from h) (by rw [s5]; decide),by have:=nth_lt5 I.b0; omega⟩
    · obtain ⟨r,x',y',z',g1,g2,g3⟩:=I.t2 h
      show look ((10,_) :: L) 9 ≠ look ((10,_) :: L) 10
      rw [look_new,look_put (by decide),g1]
      intro e
      have:=nth_lt5 g2
      cases e; omega
  · obtain rfl:=Option.some.inj (show some o4 = some o from ho)
    have s2 : sel 2 = true:=by obtain ⟨e,e1,e2,e3⟩:=a42; have:=hall e e1 e2; rwa [e3] at this
    have s0 : sel 0 = true:=by obtain ⟨e,e1,e2,e3⟩:=a40; have:=hall e e1 e2; rwa [e3] at this
    obtain ⟨r,x,y,z,g1,g2,g3,g4⟩:=I.t2 s2
    refine ⟨r4,?_⟩
    rw [p4,q4]
    refine evO5 g1 ?_
    refine evO5 (I.t0 s0) ?_
    refine store5 g2 ?_
    refine ⟨I.keep,nth_set5 I.b0 (by omega),by rw [List.length_set]; exact I.len,I.t0,I.t1,fun _=>s2,I.d5,fun _=>⟨r,_,_,_,g1,nth_self5 g2,fun _=>rfl,g4⟩,fun h=>?_,I.ne⟩
    obtain ⟨r',x',y',z',k1,k2,k3,k4⟩:=I.t3 h
    exact ⟨r',x',y',z',k1,nth_set5 k2 (fun e=>by subst e; exact I.ne s2 h (g1.trans k1.symm)),k3,k4⟩
  · obtain rfl:=Option.some.inj (show some o5 = some o from ho)
    have s3 : sel 3 = true:=by obtain ⟨e,e1,e2,e3⟩:=a53; have:=hall e e1 e2; rwa [e3] at this
    have s1 : sel 1 = true:=by obtain ⟨e,e1,e2,e3⟩:=a51; have:=hall e e1 e2; rwa [e3] at this
    obtain ⟨r,x,y,z,g1,g2,g3,g4⟩:=I.t3 s3
    refine ⟨r5,?_⟩
    rw [p5,q5]
    refine evO5 g1 ?_
    refine evO5 (I.t1 s1) ?_
    refine store5 g2 ?_
    refine ⟨I.keep,nth_set5 I.b0 (by omega),by rw [List.length_set]; exact I.len,I.t0,I.t1,I.d4,fun _=>s3,fun h=>?_,fun _=>⟨r,_,_,_,g1,nth_self5 g2,fun _=>rfl,g4⟩,I.ne⟩
    obtain ⟨r',x',y',z',k1,k2,k3,k4⟩:=I.t2 h
    exact ⟨r',x',y',z',k1,nth_set5 k2 (fun e=>by subst e; exact I.ne h s3 (k1.trans g1.symm)),k3,k4⟩
theorem sim5 {w0 : Start} {m0 mb : Mem} {qb : Loc} {n : Nat} {L L' : VSlots} {rows : Rows} {a : Act} {w : World} (h : ∀ t v,look L' t = some v → look L t = some v) (S : SIM w0 m0 mb qb n L rows a w) : SIM w0 m0 mb qb n L' rows a w:=by
  obtain ⟨⟨R,m,q,s1,s2,s3,s4⟩,s5,s6⟩:=S
  exact ⟨⟨R,m,q,s1,s2,fun t v e=>s3 t v (h t v e),s4⟩,s5,s6⟩
theorem sub5_cons {L0 L1 : VSlots} {d : Nat} {v : V} (h : look L0 d = some v) (hs : ∀ j w,look L1 j = some w → look L0 j = some w) : ∀ j w,look ((d,v) :: L1) j = some w → look L0 j = some w:=fun j w hj=>by
  by_cases e : d = j
  · subst e; rw [look_new] at hj; rw [← hj]; exact h
  · rw [look_put e] at hj; exact hs j w hj
theorem region5 {f : List Bs} {c : List Cmd} {t : Bs} {L0 : VSlots} (L1 : VSlots) {id : Nat} {ops : Array Oper} {o0 o1 o2 o3 o4 o5 : Oper} {W : VSlots → Rows → (VSlots → Rows → Prop) → Prop} {K : VSlots → Rows → Prop} (hops : ops = #[o0, o1, o2, o3, o4, o5])
    (p0 : o0.op = .load 27 (.tmp 4)) (q0 : o0.dst = some 36) (r0 : o0.guard = none)
    (p1 : o1.op = .load 27 (.tmp 4)) (q1 : o1.dst = some 37) (r1 : o1.guard = none)
    (p2 : o2.op = .alloc 27) (q2 : o2.dst = some 9) (r2 : o2.guard = none)
    (p3 : o3.op = .alloc 27) (q3 : o3.dst = some 10) (r3 : o3.guard = none)
    (p4 : o4.op = .store 27 (.tmp 9) (.tmp 36)) (q4 : o4.dst = none) (r4 : o4.guard = none)
    (p5 : o5.op = .store 27 (.tmp 10) (.tmp 37)) (q5 : o5.dst = none) (r5 : o5.guard = none)
    (a42 : ∃ e ∈ o4.after,Region.binds .any e = true ∧ e.on = 2) (a40 : ∃ e ∈ o4.after,Region.binds .any e = true ∧ e.on = 0)
    (a53 : ∃ e ∈ o5.after,Region.binds .any e = true ∧ e.on = 3) (a51 : ∃ e ∈ o5.after,Region.binds .any e = true ∧ e.on = 1)
    (h4 : look L0 4 = some (.ptr 0 0 0)) (n36 : look L0 36 = none) (n37 : look L0 37 = none) (n9 : look L0 9 = none) (n10 : look L0 10 = none)
    (hback : backB ops = true) (hsub : ∀ j v,look L1 j = some v → look L0 j = some v)
    (hW : Wk 1 ((10,.ptr 1 0 0) :: (9,.ptr 2 0 0) :: L1) [.box (c5 f c t),.box (c5 f c t),.box (c5 f c t)] ((10,.ptr 2 0 0) :: (9,.ptr 1 0 0) :: L1) [.box (c5 f c t),.box (c5 f c t),.box (c5 f c t)])
    (hK : K ((10,.ptr 2 0 0) :: (9,.ptr 1 0 0) :: L1) [.box (c5 f c t),.box (c5 f c t),.box (c5 f c t)]) :
    Borrow Tryz.prog (.region id ops true) ops.toList W L0 [.box (c5 f c t)] K:=by
  refine .sem fun w0 m0 mb qb n a w Q hds S hQ=>?_
  have hqb : ∀ r x,qb r = some x → r < 1:=by
    obtain ⟨⟨R,m,q,s1,s2,s3,s4,s5⟩,s6,s7⟩:=S
    exact fun r x h=>s2.fresh r x (s5 r x h)
  refine any_user (E:=e5) e5_ok (callN_ok e5_ok 0) hds hback (Inv:=I5 f c t L0) ⟨fun _ _ h=>h,rfl,rfl,nofun,nofun,nofun,nofun,nofun,nofun,nofun⟩ (step5 hops p0 q0 r0 p1 q1 r1 p2 q2 r2 p3 q3 r3 p4 q4 r4 p5 q5 r5 a42 a40 a53 a51 h4 n36 n37 n9 n10) (fun sel L rows a w hall I S'=>?_) S
  have hz : ops.size = 6:=by rw [hops]; rfl
  have s2:=hall 2 (by omega)
  have s3:=hall 3 (by omega)
  have s4:=hall 4 (by omega)
  have s5:=hall 5 (by omega)
  obtain ⟨r,x,y,z,g1,g2,g3,g4⟩:=I.t2 s2
  obtain ⟨r',x',y',z',k1,k2,k3,k4⟩:=I.t3 s3
  have hl:=I.len
  rw [if_pos s2,if_pos s3] at hl
  rw [g3 s4] at g2
  rw [k3 s5] at k2
  have hne : r ≠ r':=fun e=>by subst e; exact I.ne s2 s3 (g1.trans k1.symm)
  have hr1:=nth_lt5 g2
  have hr2:=nth_lt5 k2
  have b0:=I.b0
  have hcase : r = 1 ∧ r' = 2 ∨ r = 2 ∧ r' = 1:=by omega
  have hrows : rows = [.box (c5 f c t),.box (c5 f c t),.box (c5 f c t)]:=by
    rcases rows with _ | ⟨x0,_ | ⟨x1,_ | ⟨x2,_ | ⟨x3,_⟩⟩⟩⟩
    · simp at hl
    · simp at hl
    · simp at hl
    · rw [nth_eq] at b0 g2 k2
      rcases hcase with ⟨rfl,rfl⟩ | ⟨rfl,rfl⟩ <;> simp at b0 g2 k2 <;> subst b0 g2 k2 <;> rfl
    · simp at hl
  subst hrows
  have hs : ∀ {u v : V},look L 9 = some u → look L 10 = some v → ∀ j w,look ((10,v) :: (9,u) :: L1) j = some w → look L j = some w:=fun h9 h10 j w hj=>by
    by_cases e : j = 10
    · subst e; rw [look_new] at hj; rw [← hj]; exact h10
    · rw [look_put (fun h=>e h.symm)] at hj
      by_cases e2 : j = 9
      · subst e2; rw [look_new] at hj; rw [← hj]; exact h9
      · rw [look_put (fun h=>e2 h.symm)] at hj
        exact I.keep j w (hsub j w hj)
  rcases hcase with ⟨rfl,rfl⟩ | ⟨rfl,rfl⟩
  · exact hQ _ _ _ _ hK (sim5 (hs g1 k1) S')
  · exact hQ _ _ _ _ hK (hW.sim _ _ _ _ _ _ _ hqb (sim5 (hs g1 k1) S'))
theorem firstBad_of : ∀ {l : List Cmd},(∀ c ∈ l,checkCmd c = 0) → firstBad l = 0
  | [],_=>rfl
  | c :: r,h=>by
    rw [firstBad,if_pos (h c (List.mem_cons_self ..))]
    exact firstBad_of fun x hx=>h x (List.mem_cons_of_mem _ hx)
theorem check_parts {f : List Bs} {c : List Cmd} {t : Bs} (h : checkLine ⟨f,c,t⟩ = 0) (j : Nat) : checkLine ⟨f,c.take j,t⟩ = 0 ∧ checkLine ⟨[betweenN],c.drop j,t⟩ = 0:=by
  have hcs:=(checkLine_ok h).2
  dsimp only at hcs
  unfold checkLine at h ⊢
  dsimp only at h ⊢
  split at h
  · cases h
  rename_i h1
  split at h
  · cases h
  rename_i h2
  have ht : isWord t = true:=by
    have : (f ++ [t]).all isWord = true:=by simpa using h2
    exact List.all_eq_true.1 this t (by simp)
  have hw : isWord betweenN = true:=by decide +kernel
  refine ⟨?_,?_⟩
  · rw [if_neg (by rw [List.length_take]; omega),if_neg h2]
    exact firstBad_of fun x hx=>hcs x (List.mem_of_mem_take hx)
  · rw [if_neg (by rw [List.length_drop]; simp; omega),if_neg (by simp [hw,ht])]
    exact firstBad_of fun x hx=>hcs x (List.mem_of_mem_drop hx)
theorem gather_between {L : List Bs} (hL : NoNl L) (h4 : (put L).length ≤ 4000) : gatherS [⟨betweenN,put L⟩] [betweenN] = (put L,0):=by
  have hc : checkFiles [(⟨betweenN,put L⟩ : FileS)] = 0:=(putS_ok (between_put h4) rfl).2.2.2.2
  have hw : whole (put L) = put L:=by unfold whole; rw [linesOf_put hL]
  have hf : fileAt [(⟨betweenN,put L⟩ : FileS)] betweenN = put L:=by
    rw [fileAt_getN (files_iff.1 hc).2.2]
    unfold getN
    simp
  unfold gatherS
  rw [if_neg (by rw [hc]; decide),if_neg (by simp),gatherGo,hf,hw,if_neg (by simp; omega),gatherGo,List.nil_append]
theorem few_files {f : List Bs} {F : List FileS} (h : checkFiles F = 0) : checkFiles (fewL f F) = 0:=by
  obtain ⟨h1,h2,h3⟩:=files_iff.1 h
  refine files_iff.2 ⟨Nat.le_trans (List.length_filter_le _ _) h1,fun x hx=>h2 x (List.mem_filter.1 hx).1,List.Pairwise.filter _ h3⟩
theorem few_at {f : List Bs} {F : List FileS} (h : checkFiles F = 0) {s : Bs} (hs : s ∈ f) : fileAt (fewL f F) s = fileAt F s:=by
  rw [fileAt_getN (files_iff.1 (few_files h)).2.2,fileAt_getN (files_iff.1 h).2.2]
  unfold getN fewL
  rw [List.find?_filter]
  congr 2
  congr 1
  funext x
  by_cases e : x.name = s
  · simp [e,hs]
  · simp [e]
theorem few_go {f : List Bs} {F : List FileS} (h : checkFiles F = 0) : ∀ {g : List Bs} {out : Bs},(∀ s ∈ g,s ∈ f) → gatherGo (fewL f F) out g = gatherGo F out g
  | [],out,_=>rfl
  | s :: r,out,hs=>by
    rw [gatherGo,gatherGo,few_at h (hs s (List.mem_cons_self ..)),few_go h fun x hx=>hs x (List.mem_cons_of_mem _ hx)]
theorem gather_few {f : List Bs} {F : List FileS} (h : checkFiles F = 0) : gatherS (fewL f F) f = gatherS F f:=by
  unfold gatherS
  rw [few_files h,h,few_go h fun _ hs=>hs]
theorem shell_parts {F : List FileS} {f : List Bs} {c : List Cmd} {t : Bs} {r : Bs × Int} (hr : shellLine F ⟨f, c, t⟩ = r) (h0 : r.2 = 0) :
    c.length ≤ 6 ∧ F.length ≤ 12 ∧ ∀ j,∃ m,shellLine F ⟨f,c.take j,t⟩ = (m,0) ∧ putS [] betweenN m = ([⟨betweenN,m⟩],0) ∧ shellLine [⟨betweenN,m⟩] ⟨[betweenN],c.drop j,t⟩ = r ∧ shellLine (fewL f F) ⟨f,c,t⟩ = r:=by
  have hc : checkLine ⟨f,c,t⟩ = 0:=by
    by_cases h : checkLine ⟨f,c,t⟩ = 0
    · exact h
    · unfold shellLine at hr
      rw [if_pos h] at hr
      rw [← hr] at h0
      exact absurd h0 h
  have hg : (gatherS F f).2 = 0:=by
    by_cases h : (gatherS F f).2 = 0
    · exact h
    · unfold shellLine at hr
      rw [if_neg (by rw [hc]; decide),if_pos h] at hr
      rw [← hr] at h0
      exact absurd h0 h
  obtain ⟨g1,g2,g3,g4,g5,g6,g7⟩:=gather_val hg
  have hrr : r = (put (doLines c (allOf F f)),0):=by
    rw [← hr,shell_line hc hg]
    dsimp only
    rw [g7]
  refine ⟨(checkLine_ok hc).1,(files_iff.1 g1).1,fun j=>?_⟩
  obtain ⟨k1,k2⟩:=check_parts hc j
  have n1:=doLines_no (line_parts k1) g3
  have n2:=doLines_put4 (line_parts k1) g4
  dsimp only at n1 n2
  have gb:=gather_between n1 n2
  refine ⟨put (doLines (c.take j) (allOf F f)),?_,between_put n2,?_,?_⟩
  · rw [shell_line k1 hg]
    dsimp only
    rw [g7]
  · rw [shell_line k2 (by dsimp only; rw [gb]),hrr]
    dsimp only
    rw [gb]
    dsimp only
    rw [linesOf_put n1,← doLines_app,List.take_append_drop]
  · rw [← hr]
    unfold shellLine
    dsimp only
    rw [gather_few g1]
def sParts_S : Spec:=fun args K=>∃ (F : List FileS) (f : List Bs) (c : List Cmd) (t : Bs) (k : Int),args = [.sl fileV F,.agg [.sl strV f,.sl cmdV c,.str t],.int .i64 k] ∧ I64 k ∧ K (.bool true)
noncomputable def sParts_lib : List (Nat × Spec):=[(47,lineF_S),(48,shelledF_S),(49,atI_S),(50,putF_S),(24,equalB_S)]
noncomputable def sParts_fns : List (Nat × FnI):=[]
noncomputable def sParts_prims : List (Nat × PSpec):=[(52,cloneFo_P),(51,delF_P)]
theorem sParts_E : EnvOK ⟨Tryz.prog,tys,sParts_lib,sParts_fns,sParts_prims,[]⟩:=env_ok mixed0 tys0 (.cons lineF_ca lineF_ok (.cons shelledF_ca shelledF_ok (.cons atI_ca atI_ok (.cons putF_ca putF_ok (.cons equalB_ca equalB_ok .nil))))) .nil (.cons cloneFo_prim (.cons delF_prim .nil)) rfl
set_option maxHeartbeats 16000000 in
theorem sParts_ok : Pure Tryz.prog 6 sParts_S:=by
  refine pure_by sParts_E 6 (fi:={fn:=Tryz.f6,hooks:=[100005],draws:=[(6,[0,1,0,7,0,16,0,112,0,15,527,1791,3839,8191,16383])]}) ⟨Tryz.func6,by kernel_rfl,by kernel_rfl⟩ ?_
  rintro _ K ⟨F,f,c,t,k,rfl,hk,hK⟩
  replace hK : ∀ r,r = .bool true → K r:=fun r h=>h ▸ hK
  obtain ⟨r,hr⟩ : ∃ r,shellLine F ⟨f,c,t⟩ = r:=⟨_,rfl⟩
  skip
  refine ⟨F,f,c,t,rfl,?_⟩
  rw [hr]
  repeat' first | (refine fun (b : Bool) hb=>?_; cases b <;> (first | exact absurd hb (by decide) | exact Bool.noConfusion (show true = false from hb) | exact Bool.noConfusion (show false = true from hb) | skip)) | (refine fun (hl : _ ≤ MAXL)=>?_) | refine And.intro (a:=I64 _) ?_ ?_ | refine ⟨rfl,?_⟩ | fail
  rotate_right
  · refine hK _ ?_
    rfl
  all_goals
    have h0 : r.2 = 0:=by simpa using ‹(!decide (r.2 = 0)) = false›
    obtain ⟨c6,f12,hparts⟩:=shell_parts hr h0
  · unfold I64; omega
  obtain ⟨j, hj, hjl⟩ : ∃ j : Nat, k % ((c.length : Int) + 1) = (j : Int) ∧ j ≤ c.length :=
      ⟨(k % ((c.length : Int) + 1)).toNat,by have:=Int.emod_nonneg k (show (c.length : Int) + 1 ≠ 0 by omega); omega,by
        have:=Int.emod_lt_of_pos k (show (0 : Int) < (c.length : Int) + 1 by omega)
        have:=Int.emod_nonneg k (show (c.length : Int) + 1 ≠ 0 by omega)
        omega⟩
  obtain ⟨m,hm1,hm2,hm3,hm4⟩:=hparts j
  conv=>whnf
  refine ⟨k,(c.length : Int) + 1,rfl,⟨hk,by omega,by omega⟩,?_⟩
  conv=>(arg 1; rw [hj])
  skip
  conv=>whnf
  refine region5 (f:=f) (c:=c) (t:=t) [(0,.sl fileV F),(2,.int .i64 j),(4,.ptr 0 0 0),(7,.sl byteV r.1),(8,.int .i64 r.2)] rfl rfl rfl rfl rfl rfl rfl rfl rfl rfl rfl rfl rfl rfl rfl rfl rfl rfl rfl ⟨_,by simp; left; rfl,rfl,rfl⟩ ⟨_,by simp; right; left; rfl,rfl,rfl⟩ ⟨_,by simp; left; rfl,rfl,rfl⟩ ⟨_,by simp; right; left; rfl,rfl,rfl⟩ rfl rfl rfl rfl rfl (by kernel_rfl) (sub5_cons rfl (sub5_cons rfl (sub5_cons rfl (sub5_cons rfl (sub5_cons rfl (fun _ _ h=>by cases h)))))) ?_ ?_
  · exact (by (refine wk_sel [some 0,some 2,some 1] rfl rfl ?_ ?_ <;> (repeat' (first | exact True.intro | exact rfl | exact Or.inl rfl | exact Or.inr rfl | refine And.intro ?_ ?_ | fail))))
  conv=>whnf
  repeat' first | exact True.intro | refine ⟨_,⟨rfl,rfl⟩,?_⟩ | refine And.intro (a:=chkPast _ _ _ _ _ _ _ _) ?_ ?_ | fail
  conv=>whnf
  skip
  conv=>whnf
  refine ⟨.sl cmdV (c.take j),⟨fun _=>rfl,j,rfl,hjl,rfl,rfl⟩,?_⟩
  conv=>whnf
  repeat' first | exact True.intro | refine ⟨_,⟨rfl,rfl⟩,?_⟩ | refine And.intro (a:=chkPast _ _ _ _ _ _ _ _) ?_ ?_ | fail
  conv=>whnf
  skip
  conv=>whnf
  refine ⟨.sl cmdV (c.drop j),⟨fun _=>rfl,j,rfl,hjl,rfl,rfl⟩,?_⟩
  conv=>whnf
  skip
  conv=>whnf
  refine ⟨.sl strV [betweenN],⟨Bs,strV,[betweenN],LeL.refl _,rfl,rfl⟩,?_⟩
  conv=>whnf
  repeat' first | exact True.intro | refine ⟨_,⟨rfl,rfl⟩,?_⟩ | refine ⟨_,_,⟨rfl,rfl⟩,?_⟩ | refine And.intro (a:=chkPend _ _ _ _ _ _) ?_ ?_ | refine ⟨⟨rfl,rfl⟩,?_⟩ | fail
  conv=>whnf
  refine ⟨F,f,c.take j,t,rfl,?_⟩
  rw [hm1]
  repeat' first | (refine fun (b : Bool) hb=>?_; cases b <;> (first | exact absurd hb (by decide) | exact Bool.noConfusion (show true = false from hb) | exact Bool.noConfusion (show false = true from hb) | skip)) | fail
  all_goals first | (simp at hb; done) | skip
  conv=>whnf
  skip
  refine ⟨FileS,fileV,?_⟩
  skip
  refine ⟨[],betweenN,m,rfl,?_⟩
  rw [hm2]
  repeat' first | (refine fun (b : Bool) hb=>?_; cases b <;> (first | exact absurd hb (by decide) | exact Bool.noConfusion (show true = false from hb) | exact Bool.noConfusion (show false = true from hb) | skip)) | fail
  all_goals first | (simp at hb; done) | skip
  conv=>whnf
  skip
  refine ⟨[⟨betweenN,m⟩],[betweenN],c.drop j,t,rfl,?_⟩
  rw [hm3]
  skip
  conv=>whnf
  skip
  refine ⟨F,rfl,rfl,by omega,?_⟩
  conv=>whnf
  skip
  conv=>whnf
  refine ⟨F,f,c,t,rfl,rfl,by omega,fun he=>?_,?_⟩
  · rw [he] at hm4
    conv=>whnf
    repeat' first | refine ⟨_,_,_,LeL.refl _,?_⟩ | fail
    conv=>whnf
    skip
    refine ⟨F,f,c,t,rfl,?_⟩
    rw [hm4]
    repeat' first | (refine fun (b : Bool) hb=>?_; cases b <;> (first | exact absurd hb (by decide) | exact Bool.noConfusion (show true = false from hb) | exact Bool.noConfusion (show false = true from hb) | skip)) | fail
    all_goals first | (simp at hb; done) | (simp [h0] at hb; done) | skip
    conv=>whnf
    skip
    all_goals first | (simp at hb; done) | (simp [h0] at hb; done) | skip
    refine ⟨r.1,r.1,rfl,?_⟩
    repeat' first | (refine fun (b : Bool) hb=>?_; cases b <;> (first | exact absurd hb (by decide) | exact Bool.noConfusion (show true = false from hb) | exact Bool.noConfusion (show false = true from hb) | skip)) | fail
    all_goals first | (simp at hb; done) | (simp [h0] at hb; done) | skip
    conv=>whnf
    skip
    refine ⟨r.1,r.1,rfl,?_⟩
    skip
    refine hK _ ?_
    simp
  conv=>whnf
  repeat' first | refine ⟨_,_,_,LeL.refl _,?_⟩ | fail
  conv=>whnf
  skip
  refine ⟨fewL f F,f,c,t,rfl,?_⟩
  rw [hm4]
  repeat' first | (refine fun (b : Bool) hb=>?_; cases b <;> (first | exact absurd hb (by decide) | exact Bool.noConfusion (show true = false from hb) | exact Bool.noConfusion (show false = true from hb) | skip)) | fail
  all_goals first | (simp at hb; done) | (simp [h0] at hb; done) | skip
  conv=>whnf
  skip
  all_goals first | (simp at hb; done) | (simp [h0] at hb; done) | skip
  refine ⟨r.1,r.1,rfl,?_⟩
  repeat' first | (refine fun (b : Bool) hb=>?_; cases b <;> (first | exact absurd hb (by decide) | exact Bool.noConfusion (show true = false from hb) | exact Bool.noConfusion (show false = true from hb) | skip)) | fail
  all_goals first | (simp at hb; done) | (simp [h0] at hb; done) | skip
  conv=>whnf
  skip
  refine ⟨r.1,r.1,rfl,?_⟩
  skip
  refine hK _ ?_
  simp
end Gv
namespace Gv
variable [Glob] [Laid]
theorem opn_cmd : Opn Tryz.prog 48 cmdV (fun _=>True):=⟨fun en w fuel cs d p h hw=>by
  have hl : cs.length = 3:=(opn_width Tryz.underlying48 h).trans (by kernel_rfl)
  obtain ⟨k,_,f1⟩:=opn_field 0 0 1 (T:=3) Tryz.underlying48 rfl rfl rfl (by kernel_rfl) (opn_int Tryz.underlying3) h hw
  obtain ⟨s,_,f2⟩:=opn_field 1 1 1 (T:=9) Tryz.underlying48 rfl rfl rfl (by kernel_rfl) (opn_str Tryz.underlying9) h hw
  obtain ⟨n,_,f3⟩:=opn_field 2 2 1 (T:=3) Tryz.underlying48 rfl rfl rfl (by kernel_rfl) (opn_int Tryz.underlying3) h hw
  have:=Fit.cons 0 1 f1 rfl (Fit.cons 1 2 f2 rfl (Fit.cons 2 3 f3 rfl (Fit.last 3 hl)))
  rw [List.drop_zero] at this
  exact ⟨⟨k,s,n⟩,trivial,this⟩⟩
end Gv
namespace Gv
variable [Glob] [Laid]
def lineCells (l : LineS) : List V:=[.sl strV l.frm,.sl cmdV l.cmds,.str l.to]
theorem opn_line : Opn Tryz.prog 27 (fun l=>.agg (lineCells l)) (fun _=>True):=⟨fun en w fuel cs d p h hw=>by
  have hl : cs.length = 3:=(opn_width Tryz.underlying27 h).trans (by kernel_rfl)
  obtain ⟨k,_,f1⟩:=opn_field 0 0 1 (T:=24) Tryz.underlying27 rfl rfl rfl (by kernel_rfl) (opn_slice (k:=1) Tryz.underlying24 (by kernel_rfl) (by omega) (opn_str Tryz.underlying9)) h hw
  obtain ⟨s,_,f2⟩:=opn_field 1 1 1 (T:=25) Tryz.underlying27 rfl rfl rfl (by kernel_rfl) (opn_slice (k:=3) Tryz.underlying25 (by kernel_rfl) (by omega) opn_cmd) h hw
  obtain ⟨n,_,f3⟩:=opn_field 2 2 1 (T:=9) Tryz.underlying27 rfl rfl rfl (by kernel_rfl) (opn_str Tryz.underlying9) h hw
  have:=Fit.cons 0 1 f1 rfl (Fit.cons 1 2 f2 rfl (Fit.cons 2 3 f3 rfl (Fit.last 3 hl)))
  rw [List.drop_zero] at this
  exact ⟨⟨k,s,n⟩,trivial,this⟩⟩
end Gv
namespace Gv
variable [Glob] [Laid]
theorem opn_file : Opn Tryz.prog 67 fileV (fun _=>True):=⟨fun en w fuel cs d p h hw=>by
  have hl : cs.length = 2:=(opn_width Tryz.underlying67 h).trans (by kernel_rfl)
  obtain ⟨k,_,f1⟩:=opn_field 0 0 1 (T:=9) Tryz.underlying67 rfl rfl rfl (by kernel_rfl) (opn_str Tryz.underlying9) h hw
  obtain ⟨n,_,f3⟩:=opn_field 1 1 1 (T:=29) Tryz.underlying67 rfl rfl rfl (by kernel_rfl) (opn_slice (k:=1) Tryz.underlying29 (by kernel_rfl) (by omega) (opn_byte Tryz.underlying5)) h hw
  have:=Fit.cons 0 1 f1 rfl (Fit.cons 1 2 f3 rfl (Fit.last 2 hl))
  rw [List.drop_zero] at this
  exact ⟨⟨k,n⟩,trivial,this⟩⟩
end Gv
namespace Gv
variable [Glob] [Laid] [Nums]
def sPartsT_S : Spec:=fun args K=>∃ (F : List FileS) (l : LineS) (k : Int),args = [.sl fileV F,.agg (lineCells l),.int .i64 k] ∧ I64 k ∧ K (.bool true)
theorem sPartsT_ok : Pure Tryz.prog 6 sPartsT_S:=by
  intro w m args us k a1 a2 a3 a4
  obtain ⟨F,l,n,rfl,a5,a6⟩:=a4
  exact sParts_ok w m _ us k a1 a2 a3 ⟨F,l.frm,l.cmds,l.to,n,rfl,a5,a6⟩
end Gv
