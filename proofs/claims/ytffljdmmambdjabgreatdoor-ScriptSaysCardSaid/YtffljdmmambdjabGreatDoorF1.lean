/- What functions of the program come to, part 1: in every world; the conditions stand in each theorem. -/
import Derived.Test.YtffljdmmambdjabGreatDoorVa
import Derived.Test.YtffljdmmambdjabGreatDoorVb
import Derived.Test.YtffljdmmambdjabGreatDoorVc
import Derived.Test.YtffljdmmambdjabGreatDoorVd
import Derived.Test.YtffljdmmambdjabGreatDoorVe
import Derived.Test.YtffljdmmambdjabGreatDoorProg
import Derived.Test.YtffljdmmambdjabGreatDoorSh
set_option linter.unusedVariables false
set_option linter.unusedSectionVars false
set_option linter.unusedSimpArgs false
open Go Go.Proofs Gw Gp
namespace Gv
variable [Glob]
noncomputable def tys : List (Nat × TI) := [(2, ⟨(.int .i64 0), 1, 8, false, (.int .i64)⟩),
    (3,⟨(.int .i64 0),1,8,false,(.int .i64)⟩),
    (4,⟨(.bool false),1,1,false,.bool⟩),
    (5,⟨(.int .u8 0),1,1,false,(.int .u8)⟩),
    (9,⟨(.string ⟨#[]⟩),1,16,false,.str⟩),
    (20,⟨.nilIface,1,16,false,.iface⟩),
    (22,⟨(.slice none 0 0),1,24,false,(.slice 67)⟩),
    (23,⟨(.slice none 0 0),1,24,false,(.slice 27)⟩),
    (24,⟨(.slice none 0 0),1,24,false,(.slice 9)⟩),
    (25,⟨(.slice none 0 0),1,24,false,(.slice 48)⟩),
    (27,⟨(.agg #[(.slice none 0 0),(.slice none 0 0),(.string ⟨#[]⟩)]),3,64,true,(.struct [(24,0),(25,1),(9,2)])⟩),
    (28,⟨(.slice none 0 0),1,24,false,(.slice 3)⟩),
    (29,⟨(.slice none 0 0),1,24,false,(.slice 5)⟩),
    (30,⟨(.int .i64 0),1,8,false,(.int .i64)⟩),
    (36,⟨.nilFunc,1,8,false,.other⟩),
    (37,⟨.nilFunc,1,8,false,.other⟩),
    (48,⟨(.agg #[(.int .i64 0),(.string ⟨#[]⟩),(.int .i64 0)]),3,32,true,(.struct [(3,0),(9,1),(3,2)])⟩),
    (67,⟨(.agg #[(.string ⟨#[]⟩),(.slice none 0 0)]),2,40,true,(.struct [(9,0),(29,1)])⟩),
    (70,⟨.nilFunc,1,8,false,.other⟩),
    (75,⟨.nilFunc,1,8,false,.other⟩),
    (80,⟨(.slice none 0 0),1,24,false,(.slice 29)⟩),
    (84,⟨.nilIface,1,16,false,.iface⟩),
    (92,⟨(.slice none 0 0),1,24,false,(.slice 99)⟩),
    (94,⟨(.agg #[(.slice none 0 0)]),1,24,true,(.struct [(92,0)])⟩),
    (97,⟨(.slice none 0 0),1,24,false,(.slice 173)⟩),
    (99,⟨(.agg #[(.int .i64 0),(.string ⟨#[]⟩),(.int .i64 0),(.string ⟨#[]⟩),(.int .i64 0),(.int .i64 0),(.int .i64 0),(.slice none 0 0)]),8,96,true,(.struct [(3,0),(9,1),(48,2),(3,5),(3,6),(97,7)])⟩),
    (100,⟨.nilFunc,1,8,false,.other⟩),
    (113,⟨(.slice none 0 0),1,24,false,(.slice 193)⟩),
    (114,⟨(.slice none 0 0),1,24,false,(.slice 195)⟩),
    (116,⟨(.agg #[(.slice none 0 0),(.slice none 0 0),(.slice none 0 0),(.slice none 0 0),(.slice none 0 0)]),5,120,true,(.struct [(94,0),(22,1),(113,2),(114,3),(29,4)])⟩),
    (119,⟨(.slice none 0 0),1,24,false,(.slice 30)⟩),
    (125,⟨.nilFunc,1,8,false,.other⟩),
    (127,⟨.nilFunc,1,8,false,.other⟩),
    (130,⟨(.map none),1,8,false,(.map 3 9)⟩),
    (133,⟨.nilFunc,1,8,false,.other⟩),
    (140,⟨(.pointer none),1,8,false,.other⟩),
    (142,⟨(.agg #[(.pointer none),(.slice none 0 0)]),2,32,true,(.struct [(140,0),(29,1)])⟩),
    (143,⟨(.agg #[(.string ⟨#[]⟩),(.string ⟨#[]⟩),(.string ⟨#[]⟩),(.string ⟨#[]⟩),(.string ⟨#[]⟩),(.string ⟨#[]⟩),(.string ⟨#[]⟩),(.string ⟨#[]⟩),(.string ⟨#[]⟩),(.string ⟨#[]⟩),(.string ⟨#[]⟩)]),11,176,true,(.array 11 9)⟩),
    (160,⟨.nilFunc,1,8,false,.other⟩),
    (168,⟨(.slice none 0 0),1,24,false,(.slice 24)⟩),
    (171,⟨(.slice none 0 0),1,24,false,(.slice 80)⟩),
    (173,⟨(.agg #[(.int .i64 0),(.int .i64 0)]),2,16,true,(.struct [(3,0),(3,1)])⟩),
    (177,⟨(.map none),1,8,false,(.map 3 3)⟩),
    (178,⟨(.map none),1,8,false,(.map 4 3)⟩),
    (179,⟨(.pointer none),1,8,false,.other⟩),
    (181,⟨(.agg #[(.slice none 0 0),(.slice none 0 0)]),2,48,true,(.struct [(94,0),(97,1)])⟩),
    (185,⟨(.map none),1,8,false,(.map 173 4)⟩),
    (189,⟨.nilFunc,1,8,false,.other⟩),
    (190,⟨.nilFunc,1,8,false,.other⟩),
    (193,⟨(.agg #[(.slice none 0 0),(.int .i64 0),(.bool false),(.bool false)]),4,40,true,(.struct [(29,0),(3,1),(4,2),(4,3)])⟩),
    (195,⟨(.agg #[(.slice none 0 0),(.int .i64 0),(.slice none 0 0),(.bool false),(.bool false)]),5,64,true,(.struct [(80,0),(3,1),(80,2),(4,3),(4,4)])⟩),
    (199,⟨(.pointer none),1,8,false,.other⟩),
    (209,⟨(.int .u64 0),1,8,false,(.int .u64)⟩),
    (249,⟨.nilFunc,1,8,false,.other⟩),
    (310,⟨(.pointer none),1,8,false,.other⟩),
    (314,⟨(.int .i64 0),1,8,false,(.int .i64)⟩),
    (348,⟨(.pointer none),1,8,false,.other⟩),
    (353,⟨(.int .u64 0),1,8,false,(.int .u64)⟩)]
theorem mixed0 : (Tryz.prog).follows .mixedOrders = true:=by kernel_rfl
theorem tys0 : TysOK Tryz.prog tys:=tys_ok (by kernel_rfl)
class Laid : Prop where
  maxlen : ∀ w,Sub Glob.mem w → ∃ n,w.cell? ⟨2,0,none⟩ = some (.int .i64 n)
class Nums : Prop where
  pow10 : ∀ w, Sub Glob.mem w → Lib.TabIs Tryz.prog w "internal/strconv.uint64pow10" .u64 Lib.pow10Tab
class Errs : Prop where
  syn : ∀ w, Sub Glob.mem w → ∃ tp p, w.var? Tryz.prog "strconv.ErrSyntax" = some #[.iface tp p]
  rng : ∀ w, Sub Glob.mem w → ∃ tp p, w.var? Tryz.prog "strconv.ErrRange" = some #[.iface tp p]
end Gv
namespace Gv
variable [Glob] [Laid]
class Spaces : Prop where
  tab : ∀ w, Sub Glob.mem w → Lib.TabIs Tryz.prog w "strings.asciiSpace" .u8 Lib.asciiSpaceTab
end Gv
namespace Gv
variable [Glob] [Laid]
theorem opn_cmd : Opn Tryz.prog 48 cmdV (fun _=>True):=⟨fun en w fuel cs d p h hw=>by
  have hl : cs.length = 3:=(opn_width Tryz.underlying48 h).trans (by kernel_rfl)
  obtain ⟨k,_,f1⟩:=opn_field 0 0 1 (T:=3) Tryz.underlying48 rfl rfl rfl (by kernel_rfl) (opn_int Tryz.underlying3) h hw
  obtain ⟨s,_,f2⟩:=opn_field 1 1 1 (T:=9) Tryz.underlying48 rfl rfl rfl (by kernel_rfl) (opn_str Tryz.underlying9) h hw
  obtain ⟨n,_,f3⟩:=opn_field 2 2 1 (T:=3) Tryz.underlying48 rfl rfl rfl (by kernel_rfl) (opn_int Tryz.underlying3) h hw
  have:=Fit.cons 0 1 f1 rfl (Fit.cons 1 2 f2 rfl (Fit.cons 2 3 f3 rfl (Fit.last 3 hl)))
  rw [List.drop_zero] at this
  exact ⟨⟨k,s,n⟩,trivial,this⟩⟩
end Gv
namespace Gv
variable [Glob] [Laid]
def lineCells (l : LineS) : List V:=[.sl strV l.frm,.sl cmdV l.cmds,.str l.to]
theorem opn_line : Opn Tryz.prog 27 (fun l=>.agg (lineCells l)) (fun _=>True):=⟨fun en w fuel cs d p h hw=>by
  have hl : cs.length = 3:=(opn_width Tryz.underlying27 h).trans (by kernel_rfl)
  obtain ⟨k,_,f1⟩:=opn_field 0 0 1 (T:=24) Tryz.underlying27 rfl rfl rfl (by kernel_rfl) (opn_slice (k:=1) Tryz.underlying24 (by kernel_rfl) (by omega) (opn_str Tryz.underlying9)) h hw
  obtain ⟨s,_,f2⟩:=opn_field 1 1 1 (T:=25) Tryz.underlying27 rfl rfl rfl (by kernel_rfl) (opn_slice (k:=3) Tryz.underlying25 (by kernel_rfl) (by omega) opn_cmd) h hw
  obtain ⟨n,_,f3⟩:=opn_field 2 2 1 (T:=9) Tryz.underlying27 rfl rfl rfl (by kernel_rfl) (opn_str Tryz.underlying9) h hw
  have:=Fit.cons 0 1 f1 rfl (Fit.cons 1 2 f2 rfl (Fit.cons 2 3 f3 rfl (Fit.last 3 hl)))
  rw [List.drop_zero] at this
  exact ⟨⟨k,s,n⟩,trivial,this⟩⟩
end Gv
namespace Gv
variable [Glob] [Laid]
theorem word1_ca : callable Tryz.prog 101 = true:=by kernel_rfl
def word1_S : Spec:=fun args K=>∃ (c : UInt8),args = [byteV c] ∧ K (.bool (!wordByte c))
noncomputable def word1_lib : List (Nat × Spec):=[]
noncomputable def word1_fns : List (Nat × FnI):=[]
noncomputable def word1_prims : List (Nat × PSpec):=[]
theorem word1_E : EnvOK ⟨Tryz.prog,tys,word1_lib,word1_fns,word1_prims,[]⟩:=env_ok mixed0 tys0 .nil .nil .nil rfl
set_option maxHeartbeats 4000000 in
theorem word1_ok : Pure Tryz.prog 101 word1_S:=by
  refine pure_by word1_E 6 (fi:={fn:=Tryz.f101,hooks:=[],draws:=[]}) ⟨Tryz.func101,by kernel_rfl,by kernel_rfl⟩ ?_
  rintro _ K ⟨c,rfl,hK⟩
  replace hK : ∀ r,r = .bool (!wordByte c) → K r:=fun r h=>h ▸ hK
  repeat' first | (refine fun (b : Bool) hb=>?_; cases b <;> (first | exact absurd hb (by decide) | exact Bool.noConfusion (show true = false from hb) | exact Bool.noConfusion (show false = true from hb) | skip)) | fail
  all_goals (refine hK _ ?_; unfold wordByte; congr 1; grind)
end Gv
namespace Gv
variable [Glob] [Laid]
theorem cut_le (s sep : Bs) : (Lib.cut s sep).1.length ≤ s.length ∧ (Lib.cut s sep).2.1.length ≤ s.length:=by
  unfold Lib.cut
  split
  · simp; omega
  · simp
theorem cutS_ca : callable Tryz.prog 111 = true:=by kernel_rfl
def cutS_S : Spec:=fun args K=>∃ (s sep : Bs),args = [.str s,.str sep] ∧ s.length < 4294967281 ∧ K (.tup [.str (Lib.cut s sep).1,.str (Lib.cut s sep).2.1,.bool (Lib.cut s sep).2.2])
set_option maxHeartbeats 4000000 in
theorem cutS_ok : Pure Tryz.prog 111 cutS_S:=by
  intro w m args us K hm hg hv hT
  obtain ⟨s,sep,rfl,h1,hK⟩:=hT
  obtain ⟨a,b,rfl,ha,hb⟩:=args2 hv.1 hv.2
  obtain ⟨rfl,-⟩:=vr_str ha
  obtain ⟨rfl,-⟩:=vr_str hb
  obtain ⟨n,hn⟩:=Laid.maxlen w (fun b o e=>hm b o (hg b o e))
  have hl:=cut_le s sep
  refine (Tryz.strings_Cut (ba s) (ba sep) n w (by rw [ba_size]; exact h1) hn).mono fun e w' ⟨he,k,hw⟩=>?_
  subst hw
  refine ⟨_,_,he,⟨rfl,rfl,rfl,Nat.le_refl _,fun _ _ _=>rfl⟩,hK,?_⟩
  refine VR.tup (us:=[.string ⟨(Lib.cut s sep).1.toArray⟩,.string ⟨(Lib.cut s sep).2.1.toArray⟩,.bool (Lib.cut s sep).2.2]) rfl fun i v u h1 h2=>?_
  match i,h1,h2 with
  | 0,h1,h2=>cases h1; cases h2; exact .str (by unfold MAXL; omega)
  | 1,h1,h2=>cases h1; cases h2; exact .str (by unfold MAXL; omega)
  | 2,h1,h2=>cases h1; cases h2; exact .bool
end Gv
namespace Gv
variable [Glob] [Laid]
theorem splitS_ca : callable Tryz.prog 105 = true:=by kernel_rfl
def splitS_S : Spec:=fun args K=>∃ (s sep : Bs),args = [.str s,.str sep] ∧ (s.length < 4294967281 ∧ 1 ≤ sep.length) ∧ K (.sl strV (Lib.split s sep))
set_option maxHeartbeats 4000000 in
theorem splitS_ok : Pure Tryz.prog 105 splitS_S:=by
  intro w m args us K hm hg hv hT
  obtain ⟨s,sep,rfl,⟨h1,h2⟩,hK⟩:=hT
  obtain ⟨a,b,rfl,ha,hb⟩:=args2 hv.1 hv.2
  obtain ⟨rfl,-⟩:=vr_str ha
  obtain ⟨rfl,-⟩:=vr_str hb
  obtain ⟨n,hn⟩:=Laid.maxlen w (fun b o e=>hm b o (hg b o e))
  refine (Tryz.strings_Split (ba s) (ba sep) n w (by rw [ba_size]; exact h1) hn (by rw [ba_size]; exact h2)).mono fun e w' ⟨he,hw⟩=>?_
  subst hw
  rw [split_cells] at *
  have hc : Lib.countB (ba s) (ba sep) + 1 = (Lib.split s sep).length:=(split_len s sep h2).symm
  have hle : (Lib.split s sep).length ≤ s.length + 2:=by
    rw [← hc]
    have:=Lib.count_le s sep
    show Lib.count s sep + 1 ≤ _
    omega
  refine ⟨_,_,by rw [he,hc],Bel.alloc [] w _,hK,strs_new (Gw.heap_alloc_new w _) (by unfold MAXL; omega) fun x hx=>?_⟩
  have:=splitK_le sep _ s x hx
  unfold MAXL
  omega
end Gv
namespace Gv
variable [Glob] [Laid]
set_option maxHeartbeats 4000000 in
set_option maxRecDepth 100000 in
theorem wordsS_calls {w : World} : Calls Tryz.prog 109 #[] w fun e w'=>e = .returned (.agg (wordsL.map Gw.str).toArray) ∧ Bel [] w w':=by
  have mixed:=mixed0
  have t107:=Tryz.underlying143; have a107:=Tryz.isAgg143; have z107:=Tryz.sizeOf143; have v107:=Tryz.zeroValue143; have u107:=run_underlying Tryz.underlying143
  have t9:=Tryz.underlying9; have a9:=Tryz.isAgg9; have z9:=Tryz.sizeOf9; have v9:=Tryz.zeroValue9; have u9:=run_underlying Tryz.underlying9
  go_enter Tryz.func109,Tryz.ntmps109
  go_wp2
  (try simp only [Exit.inBlock,Exit.then])
  refine bodyPost_ret (results_cell_row rfl _ _ w.heap.size _ _ _ _ rfl (Go.heap_alloc_new w _) Tryz.underlying143 rfl (by kernel_rfl)) rfl ?_
  exact ⟨rfl,Bel.alloc [] w _⟩
theorem wordsS_ca : callable Tryz.prog 109 = true:=by kernel_rfl
def wordsS_S : Spec:=fun args K=>args = [] ∧ K (.agg (wordsL.map .str))
set_option maxHeartbeats 4000000 in
theorem wordsS_ok : Pure Tryz.prog 109 wordsS_S:=by
  intro w m args us K hm hg hv hT
  obtain ⟨rfl,hK⟩:=hT
  have hl : us = []:=List.length_eq_zero_iff.1 (by rw [← hv.1]; rfl)
  subst hl
  refine wordsS_calls.mono fun e w' ⟨he,hw⟩=>⟨_,_,he,hw,hK,?_⟩
  refine .agg (us:=wordsL.map Gw.str) (by simp) fun i v u h1 h2=>?_
  rw [List.getElem?_map] at h1 h2
  obtain ⟨s,hs,rfl⟩:=Option.map_eq_some_iff.1 h1
  rw [hs] at h2
  obtain rfl : Gw.str s = u:=by simpa using h2
  refine .str ?_
  have hb : ∀ s ∈ wordsL,s.length ≤ MAXL:=by decide
  exact hb s (List.mem_of_getElem? hs)
end Gv
namespace Gv
variable [Glob] [Laid]
theorem idxOf_at {l : List Bs} {c : Bs} {i : Nat} (h : i < l.length) (hc : c ∉ l.take i) (he : c = l[i]) : l.idxOf c = i:=by
  have hl : l = l.take i ++ c :: l.drop (i + 1):=by
    rw [he,List.getElem_cons_drop,List.take_append_drop]
  rw [hl,List.idxOf_append,if_neg hc]
  simp [List.idxOf_cons_self]
  omega
theorem idxS_ca : callable Tryz.prog 116 = true:=by kernel_rfl
def idxS_S : Spec:=fun args K=>∃ (l : List Bs) (c : Bs),args = [.sl strV l,.str c] ∧ K (.int .i64 (if l.idxOf c < l.length then (l.idxOf c : Int) else -1))
noncomputable def idxS_lib : List (Nat × Spec):=[]
noncomputable def idxS_fns : List (Nat × FnI):=[]
noncomputable def idxS_prims : List (Nat × PSpec):=[]
theorem idxS_E : EnvOK ⟨Tryz.prog,tys,idxS_lib,idxS_fns,idxS_prims,[]⟩:=env_ok mixed0 tys0 .nil .nil .nil rfl
set_option maxHeartbeats 4000000 in
theorem idxS_ok : Pure Tryz.prog 116 idxS_S:=by
  refine pure_by idxS_E 6 (fi:={fn:=Tryz.f116,hooks:=[],draws:=[]}) ⟨Tryz.func116,by kernel_rfl,by kernel_rfl⟩ ?_
  rintro _ K ⟨l,c,rfl,hK⟩
  replace hK : ∀ r,r = .int .i64 (if l.idxOf c < l.length then (l.idxOf c : Int) else -1) → K r:=fun r h=>h ▸ hK
  refine fun (hl : _ ≤ MAXL)=>?_
  conv=>whnf
  refine loop_live [0,1,7] (σ:=Nat) (fun i=>[(8,.int .i64 i)]) (fun i=>[]) (fun i=>i ≤ l.length ∧ c ∉ l.take i) (fun i=>l.length - i) 0 ?_
  conv=>whnf
  refine ⟨(by (refine wk_auto ?_; refine Sel4.mk rfl rfl ?_ ?_ <;> (repeat' (first | exact True.intro | exact rfl | exact Or.inl rfl | exact Or.inr rfl | refine And.intro ?_ ?_ | fail)))),⟨Nat.zero_le _,by simp⟩,fun i hi=>?_⟩
  obtain ⟨hi,hc⟩:=hi
  repeat' first | (refine fun (b : Bool) hb=>?_; cases b <;> (first | exact absurd hb (by decide) | exact Bool.noConfusion (show true = false from hb) | exact Bool.noConfusion (show false = true from hb) | skip)) | refine And.intro (a:=I64 _) ?_ ?_ | refine ⟨_,rfl,?_,rfl,?_⟩ | fail
  · refine hK _ ?_
    have e : l.take i = l:=List.take_of_length_le (by grind)
    rw [e] at hc
    have : ¬ l.idxOf c < l.length:=fun h=>hc (List.idxOf_lt_length_iff.1 h)
    rw [if_neg this]
  · grind
  · (first | omega | (unfold I64; omega) | (simp only [List.length_append,List.length_map,List.length_cons,List.length_nil,Nat.mul_one,Int.ofNat_eq_natCast] at *; omega) | (dsimp only at *; omega) | (unfold I64; dsimp only at *; omega) | (unfold I64; grind) | grind)
  · have hi2 : i < l.length:=by grind
    refine ⟨i + 1,(by (refine wk_auto ?_; refine Sel4.mk rfl rfl ?_ ?_ <;> (repeat' (first | exact True.intro | exact rfl | exact Or.inl rfl | exact Or.inr rfl | refine And.intro ?_ ?_ | fail)))),⟨by grind,?_⟩,by grind⟩
    rw [List.take_succ_eq_append_getElem hi2]
    simp only [List.mem_append,List.mem_singleton,not_or]
    refine ⟨hc,fun e=>?_⟩
    subst e
    simp at *
  · have hi2 : i < l.length:=by grind
    refine hK _ ?_
    have e : c = l[i]:=by simp_all
    rw [idxOf_at hi2 hc e,if_pos hi2]
end Gv
namespace Gv
variable [Glob] [Laid] [Errs]
theorem atoiS_ca : callable Tryz.prog 66 = true:=by kernel_rfl
def atoiS_S : Spec:=fun args K=>∃ (s : Bs),args = [.str s] ∧ s.length ≤ 140737488355328 ∧ (∀ k,Lib.atoiAll s = .ok k → K (.tup [.int .i64 k,.raw .nilIface])) ∧ ∀ n T b,(∀ k,Lib.atoiAll s ≠ .ok k) → K (.tup [.int .i64 n,.raw (.iface T (.pointer (some ⟨b,0,none⟩)))])
set_option maxHeartbeats 4000000 in
theorem atoiS_ok : Pure Tryz.prog 66 atoiS_S:=by
  intro w m args us K hm hg hv hT
  obtain ⟨s,rfl,h1,hok,herr⟩:=hT
  obtain ⟨a,rfl,ha⟩:=args1 hv.1 hv.2
  obtain ⟨rfl,-⟩:=vr_str ha
  have hgw : Sub Glob.mem w:=fun b o e=>hm b o (hg b o e)
  have two : ∀ {m : Mem} {n : Int} {u : Value},VR m noLoc (.tup [.int .i64 n,.raw u]) (.tuple #[.int .i64 n,u]):=fun {m n u}=>by
    have h : VRL m noLoc [.int .i64 n,.raw u] [.int .i64 n,u]:=VRL.cons .int (VRL.cons .raw VRL.nil)
    exact .tup h.len h.el
  cases h : Lib.atoiAll s with
  | ok v =>
    refine (Tryz.strconv_Atoi_ok (ba s) (by rw [ba_size]; omega) v h w).mono fun e w' ⟨he,hw⟩=>?_
    refine ⟨_,_,he,Bel.of_below ?_,hok v h,two⟩
    rcases hw with rfl | ⟨t,rfl⟩
    · exact RowKit.Below.refl _ _
    · exact Lib.bytesWorld_below _ _ _
  | range =>
    obtain ⟨tp,pv,e1⟩:=Errs.rng w hgw
    refine (Tryz.strconv_Atoi_range_var (ba s) (by rw [ba_size]; omega) h tp pv w e1).mono fun e w' ⟨N,he,_,_,hw⟩=>?_
    exact ⟨_,_,he,Bel.of_below hw,herr _ _ _ (fun k=>by rw [h]; intro x; cases x),two⟩
  | _ =>
    obtain ⟨tp,pv,e1⟩:=Errs.syn w hgw
    refine (Tryz.strconv_Atoi_syntax_var (ba s) (by rw [ba_size]; omega) h tp pv w e1).mono fun e w' ⟨N,he,_,_,hw⟩=>?_
    exact ⟨_,_,he,Bel.of_below hw,herr _ _ _ (fun k=>by rw [h]; intro x; cases x),two⟩
end Gv
namespace Gv
variable [Glob] [Laid] [Nums]
theorem bel_more (w : World) (k : Nat) (os : Array Obj) : Bel [] w (Go.Sort.grow (w.drewN k) os) :=
  ⟨rfl,rfl,rfl,by rw [Go.Sort.size_grow]; exact Nat.le_add_right _ _,fun i hi _=>Go.Sort.heap_grow_old (w.drewN k) os hi⟩
theorem itoa_ca : callable Tryz.prog 107 = true:=by kernel_rfl
def itoa_S : Spec:=fun args K=>∃ (n : Int),args = [.int .i64 n] ∧ I64 n ∧ K (.str (Lib.itoa n))
set_option maxHeartbeats 4000000 in
theorem itoa_ok : Pure Tryz.prog 107 itoa_S:=by
  intro w m args us K hm hg hv hT
  obtain ⟨n,rfl,h1,hK⟩:=hT
  obtain ⟨a,rfl,ha⟩:=args1 hv.1 hv.2
  cases ha
  refine (Tryz.strconv_Itoa n h1.1 h1.2 w (Nums.pow10 w (fun b o e=>hm b o (hg b o e)))).mono fun e w' ⟨he,k,os,hw⟩=>?_
  subst hw
  have:=itoa_len n h1
  exact ⟨_,_,he,bel_more w k os,hK,.str (by unfold MAXL; omega)⟩
end Gv
namespace Gv
variable [Glob] [Laid] [Errs] [Nums]
theorem parseC_ca : callable Tryz.prog 112 = true:=by kernel_rfl
def parseC_S : Spec:=fun args K=>∃ (s : Bs),args = [.str s] ∧ s.length < 4294967281 ∧ ∀ (c : Cmd) (b : Bool),(b = true → parseC s = some c) → (b = false → parseC s = none) → K (.tup [cmdV c,.bool b])
noncomputable def parseC_lib : List (Nat × Spec):=[(105,splitS_S),(109,wordsS_S),(116,idxS_S),(66,atoiS_S),(107,itoa_S)]
noncomputable def parseC_fns : List (Nat × FnI):=[]
noncomputable def parseC_prims : List (Nat × PSpec):=[]
theorem parseC_E : EnvOK ⟨Tryz.prog,tys,parseC_lib,parseC_fns,parseC_prims,[]⟩:=env_ok mixed0 tys0 (.cons splitS_ca splitS_ok (.cons wordsS_ca wordsS_ok (.cons idxS_ca idxS_ok (.cons atoiS_ca atoiS_ok (.cons itoa_ca itoa_ok .nil))))) .nil .nil rfl
set_option maxHeartbeats 8000000 in
theorem parseC_ok : Pure Tryz.prog 112 parseC_S:=by
  refine pure_by parseC_E 6 (fi:={fn:=Tryz.f112,hooks:=[3,4],draws:=[(3,[0,0,2,6,15,31,63,0,255]),(20,[0,1,3,7,15,7,39,103,255,511])]}) ⟨Tryz.func112,by kernel_rfl,by kernel_rfl⟩ ?_
  rintro _ K ⟨s,rfl,hs,hK⟩
  skip
  refine ⟨s,[32],rfl,⟨hs,by decide⟩,?_⟩
  unfold parseC at hK
  dsimp only at hK
  have hne : Lib.split s [32] ≠ []:=splitS_ne s (by decide)
  have hsl : ∀ x ∈ Lib.split s [32],x.length ≤ s.length:=splitS_le s (by decide)
  generalize hw : Lib.split s [32] = w at hK hne hsl ⊢
  obtain ⟨v0,vr,rfl⟩ : ∃ a b,w = a :: b:=by
    cases w with
    | nil=>exact absurd rfl hne
    | cons a b=>exact ⟨a,b,rfl⟩
  rw [gd_0] at hK
  skip
  conv=>whnf
  refine join_live [2,4] (σ:=Unit) (fun _=>[(5,.elt (.agg (wordsL.map .str)) 0)]) (fun _=>[.box [.int .i64 0,.str [],.int .i64 0],.dead]) (fun _=>True) ?_
  conv=>whnf
  refine ⟨?_,fun _ _=>?_⟩
  · repeat' first | refine ⟨rfl,?_⟩ | fail
    exact ⟨(),(wk_box 1 rfl rfl).trans (by (refine wk_sel [some 0,some 1] rfl rfl ?_ ?_ <;> (repeat' (first | exact True.intro | exact rfl | exact Or.inl rfl | exact Or.inr rfl | refine And.intro ?_ ?_ | fail)))),trivial⟩
  conv=>whnf
  refine join_live [2,4] (σ:=Int) (fun _=>[(6,.ptr 2 0 0)]) (fun z=>[.box [.int .i64 0,.str [],.int .i64 0],.dead,.box [.int .i64 z,.str [],.int .i64 0]]) (fun z=>z = (kindOf v0 : Int)) ?_
  conv=>whnf
  refine ⟨?_,fun z hz=>?_⟩
  · conv=>whnf
    apply Exists.intro
    apply And.intro
    · exact ⟨Bs,strV,wordsL,1,rfl,by decide,by decide,rfl,fun _=>rfl,rfl,rfl,rfl⟩
    repeat' first | refine ⟨_,⟨rfl,rfl⟩,?_⟩ | refine ⟨_,⟨_,rfl,?_,rfl,rfl,rfl⟩,?_⟩ | fail
    · simp
    skip
    conv=>whnf
    apply Exists.intro
    apply And.intro
    · exact ⟨_,_,rfl,rfl,rfl⟩
    conv=>whnf
    repeat' first | exact True.intro | refine ⟨_,⟨rfl,rfl⟩,?_⟩ | refine ⟨_,And.intro (a:=I64 _) ?_ ⟨rfl,rfl⟩,?_⟩ | refine ⟨_,_,⟨rfl,rfl⟩,?_⟩ | refine And.intro (a:=chkPend _ _ _ _ _ _) ?_ ?_ | fail
    · show I64 ((if wordsL.tail.idxOf v0 < wordsL.tail.length then (wordsL.tail.idxOf v0 : Int) else -1) + 1)
      rw [kindOf_idx]
      have:=kindOf_le v0
      unfold I64; omega
    conv=>whnf
    skip
    exact ⟨(if wordsL.tail.idxOf v0 < wordsL.tail.length then (wordsL.tail.idxOf v0 : Int) else -1) + 1,(by (refine wk_sel [some 0,some 1,some 2] rfl rfl ?_ ?_ <;> (repeat' (first | exact True.intro | exact rfl | exact Or.inl rfl | exact Or.inr rfl | refine And.intro ?_ ?_ | fail)))),kindOf_idx v0⟩
  generalize hk : kindOf v0 = k at hK hz
  subst hz
  have hk10 : k ≤ 10:=hk ▸ kindOf_le v0
  have hcases : k = 0 ∨ k = 1 ∨ k = 2 ∨ k = 3 ∨ k = 4 ∨ k = 5 ∨ k = 6 ∨ k = 7 ∨ k = 8 ∨ k = 9 ∨ k = 10:=by omega
  clear hk hk10
  rcases hcases with rfl | rfl | rfl | rfl | rfl | rfl | rfl | rfl | rfl | rfl | rfl
  · conv=>whnf
    repeat' first | (refine fun (b : Bool) hb=>?_; cases b <;> (first | exact absurd hb (by decide) | exact Bool.noConfusion (show true = false from hb) | exact Bool.noConfusion (show false = true from hb) | skip)) | fail
    conv=>whnf
    skip
    exact hK ⟨((0 : Nat) : Int),[],0⟩ false (fun h=>by cases h) (fun _=>rfl)
  · conv=>whnf
    repeat' first | (refine fun (b : Bool) hb=>?_; cases b <;> (first | exact absurd hb (by decide) | exact Bool.noConfusion (show true = false from hb) | exact Bool.noConfusion (show false = true from hb) | skip)) | (refine fun (hl : _ ≤ MAXL)=>?_) | refine ⟨_,rfl,?_,rfl,?_⟩ | fail
    · grind
    · have hl : vr.length = 1:=by grind
      obtain ⟨v1,rfl⟩:=List.length_eq_one_iff.1 hl
      conv=>whnf
      skip
      exact hK ⟨((1 : Nat) : Int),v1,0⟩ true (fun _=>rfl) (fun h=>by cases h)
    · have hl : vr.length ≠ 1:=by grind
      conv=>whnf
      skip
      exact hK ⟨((1 : Nat) : Int),[],0⟩ false (fun h=>by cases h) (fun _=>by simp [hl])
  · conv=>whnf
    repeat' first | (refine fun (b : Bool) hb=>?_; cases b <;> (first | exact absurd hb (by decide) | exact Bool.noConfusion (show true = false from hb) | exact Bool.noConfusion (show false = true from hb) | skip)) | (refine fun (hl : _ ≤ MAXL)=>?_) | refine ⟨_,rfl,?_,rfl,?_⟩ | fail
    · grind
    · have hl : vr.length = 1:=by grind
      obtain ⟨v1,rfl⟩:=List.length_eq_one_iff.1 hl
      conv=>whnf
      skip
      exact hK ⟨((2 : Nat) : Int),v1,0⟩ true (fun _=>rfl) (fun h=>by cases h)
    · have hl : vr.length ≠ 1:=by grind
      conv=>whnf
      skip
      exact hK ⟨((2 : Nat) : Int),[],0⟩ false (fun h=>by cases h) (fun _=>by simp [hl])
  · conv=>whnf
    repeat' first | (refine fun (b : Bool) hb=>?_; cases b <;> (first | exact absurd hb (by decide) | exact Bool.noConfusion (show true = false from hb) | exact Bool.noConfusion (show false = true from hb) | skip)) | (refine fun (hl : _ ≤ MAXL)=>?_) | refine ⟨_,rfl,?_,rfl,?_⟩ | fail
    · grind
    · have hl : vr.length = 1:=by grind
      obtain ⟨v1,rfl⟩:=List.length_eq_one_iff.1 hl
      conv=>whnf
      skip
      exact hK ⟨((3 : Nat) : Int),v1,0⟩ true (fun _=>rfl) (fun h=>by cases h)
    · have hl : vr.length ≠ 1:=by grind
      conv=>whnf
      skip
      exact hK ⟨((3 : Nat) : Int),[],0⟩ false (fun h=>by cases h) (fun _=>by simp [hl])
  · conv=>whnf
    repeat' first | (refine fun (b : Bool) hb=>?_; cases b <;> (first | exact absurd hb (by decide) | exact Bool.noConfusion (show true = false from hb) | exact Bool.noConfusion (show false = true from hb) | skip)) | (refine fun (hl : _ ≤ MAXL)=>?_) | refine ⟨_,rfl,?_,rfl,?_⟩ | fail
    · grind
    · have hl : vr.length = 1:=by grind
      obtain ⟨v1,rfl⟩:=List.length_eq_one_iff.1 hl
      conv=>whnf
      skip
      refine ⟨v1,rfl,?_,fun n hn=>?_,fun n T b hn=>?_⟩
      · have:=hsl v1 (by simp); omega
      · have hat : atoiB v1 = if Lib.itoa n = v1 then some n else none:=by unfold atoiB; rw [hn]
        repeat' first | refine ⟨_,⟨rfl,rfl⟩,?_⟩ | fail
        conv=>whnf
        apply Exists.intro
        apply And.intro
        · refine ⟨n,rfl,Lib.atoiAll_bounds hn,?_⟩
          exact ⟨rfl,rfl⟩
        repeat' first | (refine fun (b : Bool) hb=>?_; cases b <;> (first | exact absurd hb (by decide) | exact Bool.noConfusion (show true = false from hb) | exact Bool.noConfusion (show false = true from hb) | skip)) | refine ⟨_,⟨rfl,rfl⟩,?_⟩ | refine ⟨_,⟨_,rfl,?_,rfl,rfl,rfl⟩,?_⟩ | fail
        · simp
        · have he : Lib.itoa n = v1:=by simp_all
          rw [if_pos he] at hat
          conv=>whnf
          skip
          exact hK ⟨((4 : Nat) : Int),[],n⟩ true (fun _=>by rw [gd2_1,hat]; rfl) (fun h=>by cases h)
        · have he : ¬ Lib.itoa n = v1:=by simp_all
          rw [if_neg he] at hat
          conv=>whnf
          skip
          exact hK ⟨((4 : Nat) : Int),[],0⟩ false (fun h=>by cases h) (fun _=>by rw [gd2_1,hat]; rfl)
      · have hat : atoiB v1 = none := by
          unfold atoiB
          cases h : Lib.atoiAll v1 with
          | ok k=>exact absurd h (hn k)
          | _=>rfl
        repeat' first | refine ⟨_,⟨rfl,rfl⟩,?_⟩ | fail
        conv=>whnf
        skip
        exact hK ⟨((4 : Nat) : Int),[],0⟩ false (fun h=>by cases h) (fun _=>by rw [gd2_1,hat]; rfl)
    · have hl : vr.length ≠ 1:=by grind
      conv=>whnf
      skip
      exact hK ⟨((4 : Nat) : Int),[],0⟩ false (fun h=>by cases h) (fun _=>by simp [hl])
  · conv=>whnf
    repeat' first | (refine fun (b : Bool) hb=>?_; cases b <;> (first | exact absurd hb (by decide) | exact Bool.noConfusion (show true = false from hb) | exact Bool.noConfusion (show false = true from hb) | skip)) | (refine fun (hl : _ ≤ MAXL)=>?_) | fail
    conv=>whnf
    skip
    refine hK ⟨((5 : Nat) : Int),[],0⟩ _ (fun h=>?_) (fun h=>?_)
    · have hl : vr.length = 0:=by grind
      simp [hl]
    · have hl : vr.length ≠ 0:=by grind
      simp [hl]
  · conv=>whnf
    repeat' first | (refine fun (b : Bool) hb=>?_; cases b <;> (first | exact absurd hb (by decide) | exact Bool.noConfusion (show true = false from hb) | exact Bool.noConfusion (show false = true from hb) | skip)) | (refine fun (hl : _ ≤ MAXL)=>?_) | fail
    conv=>whnf
    skip
    refine hK ⟨((6 : Nat) : Int),[],0⟩ _ (fun h=>?_) (fun h=>?_)
    · have hl : vr.length = 0:=by grind
      simp [hl]
    · have hl : vr.length ≠ 0:=by grind
      simp [hl]
  · conv=>whnf
    repeat' first | (refine fun (b : Bool) hb=>?_; cases b <;> (first | exact absurd hb (by decide) | exact Bool.noConfusion (show true = false from hb) | exact Bool.noConfusion (show false = true from hb) | skip)) | (refine fun (hl : _ ≤ MAXL)=>?_) | fail
    conv=>whnf
    skip
    refine hK ⟨((7 : Nat) : Int),[],0⟩ _ (fun h=>?_) (fun h=>?_)
    · have hl : vr.length = 0:=by grind
      simp [hl]
    · have hl : vr.length ≠ 0:=by grind
      simp [hl]
  · conv=>whnf
    repeat' first | (refine fun (b : Bool) hb=>?_; cases b <;> (first | exact absurd hb (by decide) | exact Bool.noConfusion (show true = false from hb) | exact Bool.noConfusion (show false = true from hb) | skip)) | (refine fun (hl : _ ≤ MAXL)=>?_) | fail
    conv=>whnf
    skip
    refine hK ⟨((8 : Nat) : Int),[],0⟩ _ (fun h=>?_) (fun h=>?_)
    · have hl : vr.length = 0:=by grind
      simp [hl]
    · have hl : vr.length ≠ 0:=by grind
      simp [hl]
  · conv=>whnf
    repeat' first | (refine fun (b : Bool) hb=>?_; cases b <;> (first | exact absurd hb (by decide) | exact Bool.noConfusion (show true = false from hb) | exact Bool.noConfusion (show false = true from hb) | skip)) | (refine fun (hl : _ ≤ MAXL)=>?_) | refine ⟨_,rfl,?_,rfl,?_⟩ | fail
    · grind
    · have hl : vr.length = 1:=by grind
      obtain ⟨v1,rfl⟩:=List.length_eq_one_iff.1 hl
      conv=>whnf
      skip
      refine ⟨v1,rfl,?_,fun n hn=>?_,fun n T b hn=>?_⟩
      · have:=hsl v1 (by simp); omega
      · have hat : atoiB v1 = if Lib.itoa n = v1 then some n else none:=by unfold atoiB; rw [hn]
        repeat' first | refine ⟨_,⟨rfl,rfl⟩,?_⟩ | fail
        conv=>whnf
        apply Exists.intro
        apply And.intro
        · refine ⟨n,rfl,Lib.atoiAll_bounds hn,?_⟩
          exact ⟨rfl,rfl⟩
        repeat' first | (refine fun (b : Bool) hb=>?_; cases b <;> (first | exact absurd hb (by decide) | exact Bool.noConfusion (show true = false from hb) | exact Bool.noConfusion (show false = true from hb) | skip)) | refine ⟨_,⟨rfl,rfl⟩,?_⟩ | refine ⟨_,⟨_,rfl,?_,rfl,rfl,rfl⟩,?_⟩ | fail
        · simp
        · have he : Lib.itoa n = v1:=by simp_all
          rw [if_pos he] at hat
          conv=>whnf
          skip
          exact hK ⟨((9 : Nat) : Int),[],n⟩ true (fun _=>by rw [gd2_1,hat]; rfl) (fun h=>by cases h)
        · have he : ¬ Lib.itoa n = v1:=by simp_all
          rw [if_neg he] at hat
          conv=>whnf
          skip
          exact hK ⟨((9 : Nat) : Int),[],0⟩ false (fun h=>by cases h) (fun _=>by rw [gd2_1,hat]; rfl)
      · have hat : atoiB v1 = none := by
          unfold atoiB
          cases h : Lib.atoiAll v1 with
          | ok k=>exact absurd h (hn k)
          | _=>rfl
        repeat' first | refine ⟨_,⟨rfl,rfl⟩,?_⟩ | fail
        conv=>whnf
        skip
        exact hK ⟨((9 : Nat) : Int),[],0⟩ false (fun h=>by cases h) (fun _=>by rw [gd2_1,hat]; rfl)
    · have hl : vr.length ≠ 1:=by grind
      conv=>whnf
      skip
      exact hK ⟨((9 : Nat) : Int),[],0⟩ false (fun h=>by cases h) (fun _=>by simp [hl])
  · conv=>whnf
    repeat' first | (refine fun (b : Bool) hb=>?_; cases b <;> (first | exact absurd hb (by decide) | exact Bool.noConfusion (show true = false from hb) | exact Bool.noConfusion (show false = true from hb) | skip)) | (refine fun (hl : _ ≤ MAXL)=>?_) | refine ⟨_,rfl,?_,rfl,?_⟩ | fail
    · grind
    · have hl : vr.length = 1:=by grind
      obtain ⟨v1,rfl⟩:=List.length_eq_one_iff.1 hl
      conv=>whnf
      skip
      refine ⟨v1,rfl,?_,fun n hn=>?_,fun n T b hn=>?_⟩
      · have:=hsl v1 (by simp); omega
      · have hat : atoiB v1 = if Lib.itoa n = v1 then some n else none:=by unfold atoiB; rw [hn]
        repeat' first | refine ⟨_,⟨rfl,rfl⟩,?_⟩ | fail
        conv=>whnf
        apply Exists.intro
        apply And.intro
        · refine ⟨n,rfl,Lib.atoiAll_bounds hn,?_⟩
          exact ⟨rfl,rfl⟩
        repeat' first | (refine fun (b : Bool) hb=>?_; cases b <;> (first | exact absurd hb (by decide) | exact Bool.noConfusion (show true = false from hb) | exact Bool.noConfusion (show false = true from hb) | skip)) | refine ⟨_,⟨rfl,rfl⟩,?_⟩ | refine ⟨_,⟨_,rfl,?_,rfl,rfl,rfl⟩,?_⟩ | fail
        · simp
        · have he : Lib.itoa n = v1:=by simp_all
          rw [if_pos he] at hat
          conv=>whnf
          skip
          exact hK ⟨((10 : Nat) : Int),[],n⟩ true (fun _=>by rw [gd2_1,hat]; rfl) (fun h=>by cases h)
        · have he : ¬ Lib.itoa n = v1:=by simp_all
          rw [if_neg he] at hat
          conv=>whnf
          skip
          exact hK ⟨((10 : Nat) : Int),[],0⟩ false (fun h=>by cases h) (fun _=>by rw [gd2_1,hat]; rfl)
      · have hat : atoiB v1 = none := by
          unfold atoiB
          cases h : Lib.atoiAll v1 with
          | ok k=>exact absurd h (hn k)
          | _=>rfl
        repeat' first | refine ⟨_,⟨rfl,rfl⟩,?_⟩ | fail
        conv=>whnf
        skip
        exact hK ⟨((10 : Nat) : Int),[],0⟩ false (fun h=>by cases h) (fun _=>by rw [gd2_1,hat]; rfl)
    · have hl : vr.length ≠ 1:=by grind
      conv=>whnf
      skip
      exact hK ⟨((10 : Nat) : Int),[],0⟩ false (fun h=>by cases h) (fun _=>by simp [hl])
end Gv
namespace Gv
variable [Glob] [Laid]
theorem word_ca : callable Tryz.prog 32 = true:=by kernel_rfl
def word_S : Spec:=fun args K=>∃ (s : Bs),args = [.str s] ∧ K (.bool (isWord s))
noncomputable def word_lib : List (Nat × Spec):=[(101,word1_S)]
noncomputable def word_fns : List (Nat × FnI):=[(100,{fn:=Tryz.f100,hooks:=[],draws:=[]}),(162,{fn:=Tryz.f162,hooks:=[],draws:=[]})]
noncomputable def word_prims : List (Nat × PSpec):=[]
theorem word_E : EnvOK ⟨Tryz.prog,tys,word_lib,word_fns,word_prims,[]⟩:=env_ok mixed0 tys0 (.cons word1_ca word1_ok .nil) (.cons (by kernel_rfl) ⟨Tryz.func100,by kernel_rfl,by kernel_rfl⟩ (.cons (by kernel_rfl) ⟨Tryz.func162,by kernel_rfl,by kernel_rfl⟩ .nil)) .nil rfl
set_option maxHeartbeats 4000000 in
theorem word_ok : Pure Tryz.prog 32 word_S:=by
  refine pure_by word_E 6 (fi:={fn:=Tryz.f32,hooks:=[],draws:=[]}) ⟨Tryz.func32,by kernel_rfl,by kernel_rfl⟩ ?_
  rintro _ K ⟨s,rfl,hK⟩
  replace hK : ∀ r,r = .bool (isWord s) → K r:=fun r h=>h ▸ hK
  repeat' first | (refine fun (b : Bool) hb=>?_; cases b <;> (first | exact absurd hb (by decide) | exact Bool.noConfusion (show true = false from hb) | exact Bool.noConfusion (show false = true from hb) | skip)) | (refine fun (hl : _ ≤ MAXL)=>?_) | refine And.intro (a:=_ ≤ 140737488355328) ?_ ?_ | refine Opt.a ?_ | fail
  · refine hK _ ?_
    have h : (!decide (s = [])) = false:=by assumption
    have : s = []:=by simpa using h
    subst this; rfl
  · refine hK _ ?_
    have h : decide ((s.length : Int) ≤ 12) = false:=by assumption
    have h2 : ¬ s.length ≤ 12:=by
      intro h3
      have : ((s.length : Int) ≤ 12):=by omega
      simp [this] at h
    simp [isWord,h2]
  · have h : decide ((s.length : Int) ≤ 12) = true:=by assumption
    have h2 : (s.length : Int) ≤ 12:=by simpa using h
    omega
  have hw : ∃ t : Bool,isWord s = t ∧ t = s.all wordByte:=by
    have h : (!decide (s = [])) = true:=by assumption
    have h1 : s ≠ []:=by simpa using h
    have h : decide ((s.length : Int) ≤ 12) = true:=by assumption
    have h2 : (s.length : Int) ≤ 12:=by simpa using h
    have h3 : s.length ≤ 12:=by omega
    exact ⟨s.all wordByte,by simp [isWord,h1,h3],rfl⟩
  obtain ⟨t,ht,hta⟩:=hw
  rw [ht] at hK
  conv=>whnf
  refine loop_live [0,1,7] (σ:=Nat) (fun i=>[(8,.int .i64 i)]) (fun _=>[]) (fun i=>i ≤ s.length ∧ (s.take i).all wordByte = true) (fun i=>s.length - i) 0 ?_
  conv=>whnf
  refine ⟨(by (refine wk_sel [] rfl rfl ?_ ?_ <;> (repeat' (first | exact True.intro | exact rfl | exact Or.inl rfl | exact Or.inr rfl | refine And.intro ?_ ?_ | fail)))),⟨Nat.zero_le _,rfl⟩,fun i hi=>?_⟩
  obtain ⟨hi,hI⟩:=hi
  repeat' first | (refine fun (b : Bool) hb=>?_; cases b <;> (first | exact absurd hb (by decide) | exact Bool.noConfusion (show true = false from hb) | exact Bool.noConfusion (show false = true from hb) | skip)) | refine ⟨_,rfl,?_,rfl,?_⟩ | fail
  · have e : s.take i = s:=List.take_of_length_le (by grind)
    rw [e] at hI
    refine hK _ ?_
    rw [hta,hI]
    rfl
  · grind
  have hi2 : i < s.length:=by grind
  refine ⟨s[i],rfl,?_⟩
  have hts : s.take (i + 1) = s.take i ++ [s[i]]:=List.take_succ_eq_append_getElem hi2
  repeat' first | (refine fun (b : Bool) hb=>?_; cases b <;> (first | exact absurd hb (by decide) | exact Bool.noConfusion (show true = false from hb) | exact Bool.noConfusion (show false = true from hb) | skip)) | refine And.intro (a:=I64 _) ?_ ?_ | fail
  · (first | omega | (unfold I64; omega) | (simp only [List.length_append,List.length_map,List.length_cons,List.length_nil,Nat.mul_one,Int.ofNat_eq_natCast] at *; omega) | (dsimp only at *; omega) | (unfold I64; dsimp only at *; omega) | (unfold I64; grind) | grind)
  · refine ⟨i + 1,(by (refine wk_sel [] rfl rfl ?_ ?_ <;> (repeat' (first | exact True.intro | exact rfl | exact Or.inl rfl | exact Or.inr rfl | refine And.intro ?_ ?_ | fail)))),⟨by omega,?_⟩,by omega⟩
    rw [hts,List.all_append,hI]
    grind
  · refine hK _ ?_
    have h1 : wordByte s[i] = false:=by grind
    have h2 : s.all wordByte = false:=by
      rw [List.all_eq_false]
      exact ⟨s[i],List.getElem_mem hi2,by simp [h1]⟩
    rw [hta,h2]
    simp
end Gv
namespace Gv
variable [Glob] [Laid]
theorem ccheck_ca : callable Tryz.prog 31 = true:=by kernel_rfl
def ccheck_S : Spec:=fun args K=>∃ (k : Int) (s : Bs) (n : Int),args = [.agg [.int .i64 k,.str s,.int .i64 n]] ∧ K (.int .i64 (checkCmd ⟨k,s,n⟩))
noncomputable def ccheck_lib : List (Nat × Spec):=[(32,word_S)]
noncomputable def ccheck_fns : List (Nat × FnI):=[]
noncomputable def ccheck_prims : List (Nat × PSpec):=[]
theorem ccheck_E : EnvOK ⟨Tryz.prog,tys,ccheck_lib,ccheck_fns,ccheck_prims,[]⟩:=env_ok mixed0 tys0 (.cons word_ca word_ok .nil) .nil .nil rfl
set_option maxHeartbeats 4000000 in
theorem ccheck_ok : Pure Tryz.prog 31 ccheck_S:=by
  refine pure_by ccheck_E 6 (fi:={fn:=Tryz.f31,hooks:=[4,5,7,9],draws:=[]}) ⟨Tryz.func31,by kernel_rfl,by kernel_rfl⟩ ?_
  rintro _ K ⟨k,s,n,rfl,hK⟩
  replace hK : ∀ r,r = .int .i64 (checkCmd ⟨k,s,n⟩) → K r:=fun r h=>h ▸ hK
  obtain ⟨uw,huw⟩ : ∃ b,useWord ⟨k,s,n⟩ = b:=⟨_,rfl⟩
  obtain ⟨un,hun⟩ : ∃ b,useN ⟨k,s,n⟩ = b:=⟨_,rfl⟩
  have hc : checkCmd ⟨k,s,n⟩ = if k < 1 ∨ 10 < k then 4 else if (uw = false ∧ s ≠ []) ∨ (un = false ∧ n ≠ 0) then 4 else if un = true ∧ (n < 1 ∨ 1000 < n) then 3 else if (uw = true ∧ isWord s = false) ∨ (k = 3 ∧ s.length ≠ 2) then 1 else 0:=by
    unfold checkCmd
    rw [huw,hun]
  rw [hc] at hK
  clear hc
  simp only [useWord] at huw
  simp only [useN] at hun
  repeat' first | (refine fun (b : Bool) hb=>?_; cases b <;> (first | exact absurd hb (by decide) | exact Bool.noConfusion (show true = false from hb) | exact Bool.noConfusion (show false = true from hb) | skip)) | fail
  rotate_left
  · exact hK _ (by rw [if_pos (by grind)])
  · exact hK _ (by rw [if_pos (by grind)])
  have h1 : ¬ (k < 1 ∨ 10 < k):=by grind
  simp only [h1,if_false] at hK
  conv=>whnf
  refine join_live [1] (σ:=Bool) (fun b=>[(3,.bool b)]) (fun _=>[.box [.int .i64 k,.str s,.int .i64 n]]) (fun b=>b = uw) ?_
  conv=>whnf
  refine ⟨?_,fun b hbu=>?_⟩
  · repeat' first | (refine fun (b : Bool) hb=>?_; cases b <;> (first | exact absurd hb (by decide) | exact Bool.noConfusion (show true = false from hb) | exact Bool.noConfusion (show false = true from hb) | skip)) | fail
    all_goals (refine ⟨_,by refine wk_sel [some 0] rfl rfl ?_ ?_ <;> (repeat' (first | exact True.intro | exact rfl | exact Or.inl rfl | exact Or.inr rfl | refine And.intro ?_ ?_ | fail)),?_⟩; rw [← huw]; simp_all)
  obtain rfl : uw = b:=hbu.symm
  clear huw
  conv=>whnf
  refine join_live [1,3] (σ:=Bool) (fun b=>[(4,.bool b)]) (fun _=>[.box [.int .i64 k,.str s,.int .i64 n]]) (fun b=>b = un) ?_
  conv=>whnf
  refine ⟨?_,fun b hbu=>?_⟩
  · repeat' first | (refine fun (b : Bool) hb=>?_; cases b <;> (first | exact absurd hb (by decide) | exact Bool.noConfusion (show true = false from hb) | exact Bool.noConfusion (show false = true from hb) | skip)) | fail
    all_goals (refine ⟨_,by refine wk_sel [some 0] rfl rfl ?_ ?_ <;> (repeat' (first | exact True.intro | exact rfl | exact Or.inl rfl | exact Or.inr rfl | refine And.intro ?_ ?_ | fail)),?_⟩; rw [← hun]; simp_all)
  obtain rfl : un = b:=hbu.symm
  clear hun
  conv=>whnf
  refine join_live [1,3,4] (σ:=Unit) (fun b=>[]) (fun _=>[.box [.int .i64 k,.str s,.int .i64 n]]) (fun b=>¬ ((uw = false ∧ s ≠ []) ∨ (un = false ∧ n ≠ 0))) ?_
  conv=>whnf
  refine ⟨?_,fun _ h2=>?_⟩
  · repeat' first | (refine fun (b : Bool) hb=>?_; cases b <;> (first | exact absurd hb (by decide) | exact Bool.noConfusion (show true = false from hb) | exact Bool.noConfusion (show false = true from hb) | skip)) | fail
    all_goals (conv=>whnf)
    all_goals first
      | (refine ⟨(),(by (refine wk_sel [some 0] rfl rfl ?_ ?_ <;> (repeat' (first | exact True.intro | exact rfl | exact Or.inl rfl | exact Or.inr rfl | refine And.intro ?_ ?_ | fail)))),?_⟩; simp_all; done)
      | (refine hK _ ?_; rw [if_pos]; simp_all; done)
  simp only [h2,if_false] at hK
  conv=>whnf
  refine join_live [1,3] (σ:=Unit) (fun b=>[]) (fun _=>[.box [.int .i64 k,.str s,.int .i64 n]]) (fun b=>¬ (un = true ∧ (n < 1 ∨ 1000 < n))) ?_
  conv=>whnf
  refine ⟨?_,fun _ h3=>?_⟩
  · repeat' first | (refine fun (b : Bool) hb=>?_; cases b <;> (first | exact absurd hb (by decide) | exact Bool.noConfusion (show true = false from hb) | exact Bool.noConfusion (show false = true from hb) | skip)) | fail
    all_goals (conv=>whnf)
    all_goals first
      | (refine ⟨(),(by (refine wk_sel [some 0] rfl rfl ?_ ?_ <;> (repeat' (first | exact True.intro | exact rfl | exact Or.inl rfl | exact Or.inr rfl | refine And.intro ?_ ?_ | fail)))),?_⟩; simp_all; done)
      | (refine hK _ ?_; rw [if_pos]; simp_all; done)
  simp only [h3,if_false] at hK
  repeat' first | (refine fun (b : Bool) hb=>?_; cases b <;> (first | exact absurd hb (by decide) | exact Bool.noConfusion (show true = false from hb) | exact Bool.noConfusion (show false = true from hb) | skip)) | (refine fun (hl : _ ≤ MAXL)=>?_) | fail
  all_goals (conv=>whnf)
  any_goals first
      | (refine hK _ ?_; rw [if_pos]; simp_all; done)
      | (refine hK _ ?_; rw [if_neg]; simp_all; done)
  refine ⟨s,rfl,?_⟩
  repeat' first | (refine fun (b : Bool) hb=>?_; cases b <;> (first | exact absurd hb (by decide) | exact Bool.noConfusion (show true = false from hb) | exact Bool.noConfusion (show false = true from hb) | skip)) | (refine fun (hl : _ ≤ MAXL)=>?_) | fail
  all_goals (conv=>whnf)
  any_goals first
      | (refine hK _ ?_; rw [if_pos]; simp_all; done)
      | (refine hK _ ?_; rw [if_neg]; simp_all; done)
  · refine hK _ ?_
    rw [if_neg]
    grind
  · refine hK _ ?_
    rw [if_pos]
    grind
end Gv
namespace Gv
variable [Glob] [Laid]
theorem cline_ca : callable Tryz.prog 42 = true:=by kernel_rfl
def cline_S : Spec:=fun args K=>∃ (f : List Bs) (c : List Cmd) (t : Bs),args = [.agg [.sl strV f,.sl cmdV c,.str t]] ∧ K (.int .i64 (checkLine ⟨f,c,t⟩))
noncomputable def cline_lib : List (Nat × Spec):=[(31,ccheck_S),(32,word_S)]
noncomputable def cline_fns : List (Nat × FnI):=[(113,{fn:=Tryz.f113,hooks:=[],draws:=[]})]
noncomputable def cline_prims : List (Nat × PSpec):=[]
theorem cline_E : EnvOK ⟨Tryz.prog,tys,cline_lib,cline_fns,cline_prims,[]⟩:=env_ok mixed0 tys0 (.cons ccheck_ca ccheck_ok (.cons word_ca word_ok .nil)) (.cons (by kernel_rfl) ⟨Tryz.func113,by kernel_rfl,by kernel_rfl⟩ .nil) .nil rfl
set_option maxHeartbeats 4000000 in
theorem cline_ok : Pure Tryz.prog 42 cline_S:=by
  refine pure_by cline_E 6 (fi:={fn:=Tryz.f42,hooks:=[3],draws:=[(3,[0,1,3,0,8,24,63,127,0])]}) ⟨Tryz.func42,by kernel_rfl,by kernel_rfl⟩ ?_
  rintro _ K ⟨f,c,t,rfl,hK⟩
  replace hK : ∀ r,r = .int .i64 (checkLine ⟨f,c,t⟩) → K r:=fun r h=>h ▸ hK
  unfold checkLine at hK
  dsimp only at hK
  conv=>whnf
  refine join_live [1] (σ:=Unit) (fun b=>[]) (fun _=>[.box [.sl strV f,.sl cmdV c,.str t]]) (fun b=>¬ (f.length = 0 ∨ 4 < f.length ∨ 6 < c.length)) ?_
  conv=>whnf
  refine ⟨?_,fun _ h1=>?_⟩
  · repeat' first | (refine fun (b : Bool) hb=>?_; cases b <;> (first | exact absurd hb (by decide) | exact Bool.noConfusion (show true = false from hb) | exact Bool.noConfusion (show false = true from hb) | skip)) | (refine fun (hl : _ ≤ MAXL)=>?_) | fail
    all_goals (conv=>whnf)
    all_goals first
      | (refine ⟨(),(by (refine wk_sel [some 0] rfl rfl ?_ ?_ <;> (repeat' (first | exact True.intro | exact rfl | exact Or.inl rfl | exact Or.inr rfl | refine And.intro ?_ ?_ | fail)))),?_⟩; simp_all; omega)
      | (refine hK _ ?_; rw [if_pos]; simp_all; omega)
      | (refine hK _ ?_; rw [if_pos]; simp_all; done)
  rw [if_neg h1] at hK
  repeat' first | exact True.intro | refine ⟨_,⟨rfl,rfl⟩,?_⟩ | refine And.intro (a:=chkPast _ _ _ _ _ _ _ _) ?_ ?_ | fail
  conv=>whnf
  apply Exists.intro
  apply Exists.intro
  apply And.intro
  · repeat' first | (refine fun (b : Bool) hb=>?_; cases b <;> (first | exact absurd hb (by decide) | exact Bool.noConfusion (show true = false from hb) | exact Bool.noConfusion (show false = true from hb) | skip)) | refine And.intro (a:=_ ≤ 140737488355328) ?_ ?_ | refine ⟨(fun _=>rfl),?_⟩ | refine ⟨rfl,?_⟩ | fail
    · simp only [List.length_nil,List.length_map]
      omega
    · exact rfl
    · exfalso
      have h : true = true → f = []:=by assumption
      simp [h rfl] at h1
  repeat' first | exact True.intro | refine ⟨_,⟨rfl,rfl⟩,?_⟩ | refine And.intro (a:=chkPend _ _ _ _ _ _) ?_ ?_ | refine And.intro (a:=chkPast _ _ _ _ _ _ _ _) ?_ ?_ | refine ⟨⟨rfl,rfl⟩,?_⟩ | fail
  refine ⟨_,⟨Bs,strV,[t],LeL.refl _,rfl,rfl⟩,?_⟩
  refine ⟨_,_,⟨fun _=>rfl,?_,rfl,rfl⟩,?_⟩
  · simp only [List.length_nil,List.length_map,List.length_append,List.nil_append,elsOf,List.length_cons]
    omega
  have hels : [] ++ f.map strV ++ [t].map strV = (f ++ [t]).map strV:=by simp
  repeat' first | exact True.intro | refine ⟨_,⟨rfl,rfl⟩,?_⟩ | refine ⟨_,(fun _=>⟨rfl,rfl⟩),?_⟩ | refine And.intro (a:=chkPend _ _ _ _ _ _) ?_ ?_ | refine And.intro (a:=chkPast _ _ _ _ _ _ _ _) ?_ ?_ | fail
  rw [hels]
  generalize hg : f ++ [t] = g at hK hels ⊢
  have hgl : g.length ≤ 5:=by
    rw [← hg]
    simp only [List.length_append,List.length_cons,List.length_nil]
    omega
  conv=>whnf
  refine loop_live [1,30,31] (σ:=Nat) (fun i=>[(32,.int .i64 i)]) (fun _=>[.box [.sl strV f,.sl cmdV c,.str t],.dead,.dead,.row 1 (g.map strV)]) (fun i=>i ≤ g.length ∧ (g.take i).all isWord = true) (fun i=>g.length - i) 0 ?_
  conv=>whnf
  refine ⟨(by (refine wk_sel [some 0,some 1,some 2,some 3] rfl rfl ?_ ?_ <;> (repeat' (first | exact True.intro | exact rfl | exact Or.inl rfl | exact Or.inr rfl | refine And.intro ?_ ?_ | fail)))),⟨Nat.zero_le _,rfl⟩,fun i hi=>?_⟩
  obtain ⟨hi,hI⟩:=hi
  repeat' first | (refine fun (b : Bool) hb=>?_; cases b <;> (first | exact absurd hb (by decide) | exact Bool.noConfusion (show true = false from hb) | exact Bool.noConfusion (show false = true from hb) | skip)) | (refine fun (hl : _ ≤ MAXL)=>?_) | refine ⟨rfl,?_⟩ | fail
  · have e : g.take i = g:=List.take_of_length_le (by grind)
    rw [e] at hI
    simp only [hI] at hK
    conv=>whnf
    refine loop_live [41,42] (σ:=Nat) (fun i=>[(43,.int .i64 i)]) (fun _=>[.box [.sl strV f,.sl cmdV c,.str t],.dead,.dead,.row 1 (g.map strV)]) (fun i=>i ≤ c.length ∧ firstBad (c.drop i) = firstBad c) (fun i=>c.length - i) 0 ?_
    conv=>whnf
    refine ⟨(by (refine wk_sel [some 0,some 1,some 2,some 3] rfl rfl ?_ ?_ <;> (repeat' (first | exact True.intro | exact rfl | exact Or.inl rfl | exact Or.inr rfl | refine And.intro ?_ ?_ | fail)))),⟨Nat.zero_le _,rfl⟩,fun i hi=>?_⟩
    obtain ⟨hi,hJ⟩:=hi
    repeat' first | (refine fun (b : Bool) hb=>?_; cases b <;> (first | exact absurd hb (by decide) | exact Bool.noConfusion (show true = false from hb) | exact Bool.noConfusion (show false = true from hb) | skip)) | refine ⟨_,rfl,?_,rfl,?_⟩ | fail
    · refine hK _ ?_
      have e : c.drop i = []:=List.drop_eq_nil_of_le (by grind)
      rw [e] at hJ
      rw [← hJ]
      rfl
    · grind
    · have hi2 : i < c.length:=by grind
      have hd : c.drop i = c[i] :: c.drop (i + 1):=List.drop_eq_getElem_cons hi2
      rw [hd] at hJ
      refine ⟨c[i].kind,c[i].word,c[i].n,rfl,?_⟩
      have hb0 : firstBad (c[i] :: c.drop (i + 1)) = if checkCmd c[i] = 0 then firstBad (c.drop (i + 1)) else checkCmd c[i]:=rfl
      have hcc : checkCmd ⟨c[i].kind,c[i].word,c[i].n⟩ = checkCmd c[i]:=rfl
      rw [hcc]
      generalize checkCmd c[i] = e at hb0 ⊢
      repeat' first | (refine fun (b : Bool) hb=>?_; cases b <;> (first | exact absurd hb (by decide) | exact Bool.noConfusion (show true = false from hb) | exact Bool.noConfusion (show false = true from hb) | skip)) | refine And.intro (a:=I64 _) ?_ ?_ | fail
      · (first | omega | (unfold I64; omega) | (simp only [List.length_append,List.length_map,List.length_cons,List.length_nil,Nat.mul_one,Int.ofNat_eq_natCast] at *; omega) | (dsimp only at *; omega) | (unfold I64; dsimp only at *; omega) | (unfold I64; grind) | grind)
      · refine ⟨i + 1,(by (refine wk_sel [some 0,some 1,some 2,some 3] rfl rfl ?_ ?_ <;> (repeat' (first | exact True.intro | exact rfl | exact Or.inl rfl | exact Or.inr rfl | refine And.intro ?_ ?_ | fail)))),⟨by omega,?_⟩,by omega⟩
        rw [← hJ,hb0,if_pos (by grind)]
      · refine hK _ ?_
        have he : ¬ e = 0:=by grind
        rw [← hJ,hb0]
        simp [he]
  have hi2 : i < g.length:=by grind
  refine ⟨i,rfl,by simpa using hi2,?_⟩
  refine ⟨strV g[i],by simp [hi2],?_⟩
  refine ⟨g[i],rfl,?_⟩
  have hts : g.take (i + 1) = g.take i ++ [g[i]]:=List.take_succ_eq_append_getElem hi2
  repeat' first | (refine fun (b : Bool) hb=>?_; cases b <;> (first | exact absurd hb (by decide) | exact Bool.noConfusion (show true = false from hb) | exact Bool.noConfusion (show false = true from hb) | skip)) | refine And.intro (a:=I64 _) ?_ ?_ | fail
  · (first | omega | (unfold I64; omega) | (simp only [List.length_append,List.length_map,List.length_cons,List.length_nil,Nat.mul_one,Int.ofNat_eq_natCast] at *; omega) | (dsimp only at *; omega) | (unfold I64; dsimp only at *; omega) | (unfold I64; grind) | grind)
  · refine ⟨i + 1,(by (refine wk_sel [some 0,some 1,some 2,some 3] rfl rfl ?_ ?_ <;> (repeat' (first | exact True.intro | exact rfl | exact Or.inl rfl | exact Or.inr rfl | refine And.intro ?_ ?_ | fail)))),⟨by omega,?_⟩,by omega⟩
    rw [hts,List.all_append,hI]
    grind
  · refine hK _ ?_
    have h1 : g.all isWord = false:=by
      rw [List.all_eq_false]
      exact ⟨g[i],List.getElem_mem hi2,by grind⟩
    rw [if_pos h1]
end Gv
namespace Gv
variable [Glob] [Laid]
theorem scheckS_ca : callable Tryz.prog 43 = true:=by kernel_rfl
def scheckS_S : Spec:=fun args K=>∃ (l : List LineS),args = [.sl lineV l] ∧ K (.int .i64 (checkS l))
noncomputable def scheckS_lib : List (Nat × Spec):=[(42,cline_S)]
noncomputable def scheckS_fns : List (Nat × FnI):=[]
noncomputable def scheckS_prims : List (Nat × PSpec):=[]
theorem scheckS_E : EnvOK ⟨Tryz.prog,tys,scheckS_lib,scheckS_fns,scheckS_prims,[]⟩:=env_ok mixed0 tys0 (.cons cline_ca cline_ok .nil) .nil .nil rfl
set_option maxHeartbeats 4000000 in
theorem scheckS_ok : Pure Tryz.prog 43 scheckS_S:=by
  refine pure_by scheckS_E 6 (fi:={fn:=Tryz.f43,hooks:=[],draws:=[]}) ⟨Tryz.func43,by kernel_rfl,by kernel_rfl⟩ ?_
  rintro _ K ⟨l,rfl,hK⟩
  replace hK : ∀ r,r = .int .i64 (checkS l) → K r:=fun r h=>h ▸ hK
  unfold checkS at hK
  repeat' first | (refine fun (b : Bool) hb=>?_; cases b <;> (first | exact absurd hb (by decide) | exact Bool.noConfusion (show true = false from hb) | exact Bool.noConfusion (show false = true from hb) | skip)) | (refine fun (hl : _ ≤ MAXL)=>?_) | fail
  rotate_left
  · refine hK _ ?_
    rw [if_pos (by grind)]
  have h6 : ¬ 6 < l.length:=by grind
  rw [if_neg h6] at hK
  conv=>whnf
  refine loop_live [9,10] (σ:=Nat) (fun i=>[(11,.int .i64 i)]) (fun _=>[]) (fun i=>i ≤ l.length ∧ linesBad (l.drop i) = linesBad l) (fun i=>l.length - i) 0 ?_
  conv=>whnf
  refine ⟨(by (refine wk_auto ?_; refine Sel4.mk rfl rfl ?_ ?_ <;> (repeat' (first | exact True.intro | exact rfl | exact Or.inl rfl | exact Or.inr rfl | refine And.intro ?_ ?_ | fail)))),⟨Nat.zero_le _,rfl⟩,fun i hi=>?_⟩
  obtain ⟨hi,hI⟩:=hi
  repeat' first | (refine fun (b : Bool) hb=>?_; cases b <;> (first | exact absurd hb (by decide) | exact Bool.noConfusion (show true = false from hb) | exact Bool.noConfusion (show false = true from hb) | skip)) | refine ⟨_,rfl,?_,rfl,?_⟩ | fail
  · refine hK _ ?_
    have e : l.drop i = []:=List.drop_eq_nil_of_le (by grind)
    rw [e] at hI
    rw [← hI]
    rfl
  · grind
  have hi2 : i < l.length:=by grind
  have hd : l.drop i = l[i] :: l.drop (i + 1):=List.drop_eq_getElem_cons hi2
  rw [hd] at hI
  refine ⟨l[i].frm,l[i].cmds,l[i].to,rfl,?_⟩
  have hb0 : linesBad (l[i] :: l.drop (i + 1)) = if checkLine l[i] ≠ 0 then checkLine l[i] else linesBad (l.drop (i + 1)):=rfl
  rw [show checkLine ⟨l[i].frm,l[i].cmds,l[i].to⟩ = checkLine l[i] from rfl]
  generalize checkLine l[i] = e at hb0 ⊢
  repeat' first | (refine fun (b : Bool) hb=>?_; cases b <;> (first | exact absurd hb (by decide) | exact Bool.noConfusion (show true = false from hb) | exact Bool.noConfusion (show false = true from hb) | skip)) | refine And.intro (a:=I64 _) ?_ ?_ | fail
  · (first | omega | (unfold I64; omega) | (simp only [List.length_append,List.length_map,List.length_cons,List.length_nil,Nat.mul_one,Int.ofNat_eq_natCast] at *; omega) | (dsimp only at *; omega) | (unfold I64; dsimp only at *; omega) | (unfold I64; grind) | grind)
  · refine ⟨i + 1,(by (refine wk_auto ?_; refine Sel4.mk rfl rfl ?_ ?_ <;> (repeat' (first | exact True.intro | exact rfl | exact Or.inl rfl | exact Or.inr rfl | refine And.intro ?_ ?_ | fail)))),⟨by omega,?_⟩,by omega⟩
    rw [← hI,hb0,if_neg (by grind)]
  · refine hK _ ?_
    have he : e ≠ 0:=by grind
    rw [← hI,hb0,if_pos he]
end Gv
namespace Gv
variable [Glob] [Laid] [Errs] [Nums]
theorem parse2S_ca : callable Tryz.prog 40 = true:=by kernel_rfl
def parse2S_S : Spec:=fun args K=>∃ (s0 : Bs),args = [.str s0] ∧ K (.tup [.sl lineV (parseS s0).1,.int .i64 (parseS s0).2.1,.int .i64 (parseS s0).2.2])
noncomputable def parse2S_lib : List (Nat × Spec):=[(111,cutS_S),(105,splitS_S),(112,parseC_S),(42,cline_S),(43,scheckS_S)]
noncomputable def parse2S_fns : List (Nat × FnI):=[]
noncomputable def parse2S_prims : List (Nat × PSpec):=[]
theorem parse2S_E : EnvOK ⟨Tryz.prog,tys,parse2S_lib,parse2S_fns,parse2S_prims,[]⟩:=env_ok mixed0 tys0 (.cons cutS_ca cutS_ok (.cons splitS_ca splitS_ok (.cons parseC_ca parseC_ok (.cons cline_ca cline_ok (.cons scheckS_ca scheckS_ok .nil))))) .nil .nil rfl
set_option maxHeartbeats 16000000 in
theorem parse2S_ok : Pure Tryz.prog 40 parse2S_S:=by
  refine pure_by parse2S_E 6 (fi:={fn:=Tryz.f40,hooks:=[],draws:=[]}) ⟨Tryz.func40,by kernel_rfl,by kernel_rfl⟩ ?_
  rintro _ K ⟨s0,rfl,hK⟩
  replace hK : ∀ r,r = .tup [.sl lineV (parseS s0).1,.int .i64 (parseS s0).2.1,.int .i64 (parseS s0).2.2] → K r:=fun r h=>h ▸ hK
  unfold parseS at hK
  repeat' first | (refine fun (b : Bool) hb=>?_; cases b <;> (first | exact absurd hb (by decide) | exact Bool.noConfusion (show true = false from hb) | exact Bool.noConfusion (show false = true from hb) | skip)) | (refine fun (hl : _ ≤ MAXL)=>?_) | fail
  rotate_left
  · refine ⟨LineS,lineV,?_⟩
    refine hK _ ?_
    rw [if_pos (by grind)]
  have h8 : ¬ 8000 < s0.length:=by grind
  rw [if_neg h8] at hK
  conv=>whnf
  refine loop_live [] (σ:=Bs × Nat × List LineS) (fun s=>[(0,.str s.1),(2,.own 0),(5,.int .i64 s.2.1)]) (fun s=>[.row 3 (s.2.2.map lineV)]) (fun s=>s.2.1 + s.1.length ≤ s0.length ∧ s.2.2.length ≤ s.2.1 ∧ ∃ n,s.1.length < n ∧ parseGo n s.1 s.2.1 s.2.2 = parseGo (s0.length + 1) s0 0 []) (fun s=>s.1.length) (s0,0,[]) ?_
  conv=>whnf
  refine ⟨(by (refine wk_sel [none] rfl rfl ?_ ?_ <;> (repeat' (first | exact True.intro | exact rfl | exact Or.inl rfl | exact Or.inr rfl | refine And.intro ?_ ?_ | fail)))),⟨by simp,by simp,s0.length + 1,Nat.lt_succ_self _,rfl⟩,fun s hs=>?_⟩
  obtain ⟨s,i,l⟩:=s
  obtain ⟨hi,hli,n,hn,hgo⟩:=hs
  dsimp only at hi hli hn hgo
  rw [← hgo] at hK
  obtain ⟨n,rfl⟩ : ∃ m,n = m + 1:=⟨n - 1,by omega⟩
  repeat' first | refine ⟨_,_,_,LeL.refl _,?_⟩ | (refine fun (b : Bool) hb=>?_; cases b <;> (first | exact absurd hb (by decide) | exact Bool.noConfusion (show true = false from hb) | exact Bool.noConfusion (show false = true from hb) | skip)) | fail
  · have hs : s = []:=by simp_all
    subst hs
    rw [parseGo_end] at hK
    conv=>whnf
    refine ⟨l,rfl,?_⟩
    repeat' first | (refine fun (b : Bool) hb=>?_; cases b <;> (first | exact absurd hb (by decide) | exact Bool.noConfusion (show true = false from hb) | exact Bool.noConfusion (show false = true from hb) | skip)) | fail
    · have he : checkS l = 0:=by simp_all
      rw [he] at hK
      conv=>whnf
      skip
      exact hK _ rfl
    · have he : checkS l ≠ 0:=by simp_all
      rw [if_pos he] at hK
      conv=>whnf
      skip
      refine ⟨LineS,lineV,?_⟩
      exact hK _ rfl
  have hs : s ≠ []:=by simp_all
  rw [parseGo_step hs] at hK
  conv=>whnf
  skip
  refine ⟨s,[10],rfl,by omega,?_⟩
  have hct:=cut_true (s:=s) (sep:=[10])
  have hcl:=cutB_le s [10]
  skip
  refine ⟨(Lib.cut s [10]).1,toB,rfl,by omega,?_⟩
  have hcl2:=cutB_le (Lib.cut s [10]).1 toB
  repeat' first | (refine fun (b : Bool) hb=>?_; cases b <;> (first | exact absurd hb (by decide) | exact Bool.noConfusion (show true = false from hb) | exact Bool.noConfusion (show false = true from hb) | skip)) | fail
  rotate_left
  · have h1 : (Lib.cut s [10]).2.2 = true:=by simpa using ‹(!(Lib.cut s [10]).2.2) = false›
    have h2 : (Lib.cut (Lib.cut s [10]).1 toB).2.2 = false:=by simpa using ‹(!(Lib.cut (Lib.cut s [10]).1 toB).2.2) = true›
    rw [if_neg (by rw [h1]; decide),lineP_to h2,if_pos (by decide)] at hK
    conv=>whnf
    skip
    refine ⟨LineS,lineV,?_⟩
    exact hK _ rfl
  · have h1 : (Lib.cut s [10]).2.2 = false:=by simpa using ‹(!(Lib.cut s [10]).2.2) = true›
    rw [if_pos h1] at hK
    conv=>whnf
    skip
    conv=>whnf
    skip
    refine ⟨LineS,lineV,?_⟩
    exact hK _ rfl
  have h1 : (Lib.cut s [10]).2.2 = true:=by simpa using ‹(!(Lib.cut s [10]).2.2) = false›
  have h2 : (Lib.cut (Lib.cut s [10]).1 toB).2.2 = true:=by simpa using ‹(!(Lib.cut (Lib.cut s [10]).1 toB).2.2) = false›
  rw [if_neg (by rw [h1]; decide)] at hK
  have hsn:=hct h1
  conv=>whnf
  skip
  refine ⟨(Lib.cut (Lib.cut s [10]).1 toB).1,barB,rfl,⟨by omega,by decide⟩,?_⟩
  have hne : Lib.split (Lib.cut (Lib.cut s [10]).1 toB).1 barB ≠ []:=splitS_ne _ (by decide)
  have hsl : ∀ x ∈ Lib.split (Lib.cut (Lib.cut s [10]).1 toB).1 barB,x.length ≤ (Lib.cut (Lib.cut s [10]).1 toB).1.length:=splitS_le _ (by decide)
  have hpl : ∃ a b,Lib.split (Lib.cut (Lib.cut s [10]).1 toB).1 barB = a :: b:=by
    cases hh : Lib.split (Lib.cut (Lib.cut s [10]).1 toB).1 barB with
    | nil=>exact absurd hh hne
    | cons a b=>exact ⟨a,b,rfl⟩
  obtain ⟨p0,pr,hp⟩:=hpl
  conv=>(arg 1; rw [hp])
  have hcnt:=split_count (sep:=barB) (by decide) _ (Lib.cut (Lib.cut s [10]).1 toB).1 (Nat.le_refl _)
  rw [hp] at hsl hcnt
  simp only [List.length_cons] at hcnt
  repeat' first | refine ⟨_,rfl,?_,rfl,?_⟩ | fail
  · simp
  conv=>whnf
  refine ⟨p0,[32],rfl,⟨?_,by decide⟩,?_⟩
  · have:=hsl p0 (by simp)
    omega
  repeat' first | refine ⟨(fun _=>rfl),?_⟩ | fail
  refine ⟨1,rfl,by simp,?_⟩
  repeat' first | (refine fun (hl : _ ≤ MAXL)=>?_) | fail
  conv=>whnf
  refine loop_live [5,7,13,55,56] (σ:=Nat × List Cmd) (fun c=>[(2,.own 0),(57,.int .i64 c.1)]) (fun c=>[.row 3 (l.map lineV),.box [.sl strV (Lib.split p0 [32]),.own 2,.str (Lib.cut (Lib.cut s [10]).1 toB).2.1],.row 3 (c.2.map cmdV)]) (fun c=>c.1 ≤ pr.length ∧ parseCs (pr.take c.1) = some c.2 ∧ c.2.length = c.1) (fun c=>pr.length - c.1) (0,[]) ?_
  conv=>whnf
  refine ⟨(by (refine wk_sel [some 0,some 1,none] rfl rfl ?_ ?_ <;> (repeat' (first | exact True.intro | exact rfl | exact Or.inl rfl | exact Or.inr rfl | refine And.intro ?_ ?_ | fail)))),⟨Nat.zero_le _,rfl,rfl⟩,fun c hc=>?_⟩
  obtain ⟨j,cs⟩:=c
  obtain ⟨hj,hcs,hcl⟩:=hc
  dsimp only at hj hcs hcl
  repeat' first | refine ⟨_,_,_,LeL.refl _,?_⟩ | (refine fun (b : Bool) hb=>?_; cases b <;> (first | exact absurd hb (by decide) | exact Bool.noConfusion (show true = false from hb) | exact Bool.noConfusion (show false = true from hb) | skip)) | refine ⟨_,rfl,?_,rfl,?_⟩ | fail
  · have hjl : j = pr.length := by
      have h : ¬ ((j : Int) < (pr.length : Int)):=of_decide_eq_false (by assumption)
      omega
    subst hjl
    rw [List.take_length] at hcs
    have hLP:=lineP_some h2 (by rw [hp]; exact hcs) hp
    rw [hLP] at hK
    dsimp only at hK
    conv=>whnf
    refine ⟨_,cs,_,rfl,?_⟩
    repeat' first | (refine fun (b : Bool) hb=>?_; cases b <;> (first | exact absurd hb (by decide) | exact Bool.noConfusion (show true = false from hb) | exact Bool.noConfusion (show false = true from hb) | skip)) | refine And.intro (a:=I64 _) ?_ ?_ | refine And.intro (a:=_ ≤ 140737488355328) ?_ ?_ | refine ⟨rfl,?_⟩ | fail
    · refine Nat.le_trans (Nat.mul_le_mul_right _ (show _ ≤ 8001 from ?_)) (by decide)
      simp only [List.length_map,List.length_cons,List.length_nil]
      omega
    · show I64 ((i : Int) + 1)
      unfold I64; omega
    · have he : checkLine ⟨Lib.split p0 [32], cs, (Lib.cut (Lib.cut s [10]).1 toB).2.1⟩ = 0 := by
        first | simpa using ‹(!decide (checkLine ⟨Lib.split p0 [32],cs,(Lib.cut (Lib.cut s [10]).1 toB).2.1⟩ = 0)) = false› | simp_all
      rw [if_neg (by rw [he]; decide)] at hK
      have hlen : (Lib.cut s [10]).2.1.length < s.length:=by
        have:=congrArg List.length hsn
        simp only [List.length_append,List.length_cons,List.length_nil] at this
        omega
      refine ⟨((Lib.cut s [10]).2.1,i + 1,l ++ [⟨Lib.split p0 [32],cs,(Lib.cut (Lib.cut s [10]).1 toB).2.1⟩]),?_,⟨?_,?_,n,?_,?_⟩,hlen⟩
      · show Wk _ _ _ _ [.row 3 ((l ++ [(⟨Lib.split p0 [32],cs,(Lib.cut (Lib.cut s [10]).1 toB).2.1⟩ : LineS)]).map lineV)]
        rw [List.map_append]
        exact (by (refine wk_sel [some 4] rfl rfl ?_ ?_ <;> (repeat' (first | exact True.intro | exact rfl | exact Or.inl rfl | exact Or.inr rfl | refine And.intro ?_ ?_ | fail))))
      · show i + 1 + (Lib.cut s [10]).2.1.length ≤ _
        omega
      · simp; omega
      · show (Lib.cut s [10]).2.1.length < n
        omega
      · show parseGo n (Lib.cut s [10]).2.1 (i + 1) (l ++ [⟨Lib.split p0 [32],cs,(Lib.cut (Lib.cut s [10]).1 toB).2.1⟩]) = _
        rw [← hgo,parseGo_step hs,if_neg (by rw [h1]; decide),hLP]
        dsimp only
        rw [if_neg (by rw [he]; decide)]
    · have he : checkLine ⟨Lib.split p0 [32], cs, (Lib.cut (Lib.cut s [10]).1 toB).2.1⟩ ≠ 0 := by
        first | simpa using ‹(!decide (checkLine ⟨Lib.split p0 [32],cs,(Lib.cut (Lib.cut s [10]).1 toB).2.1⟩ = 0)) = true› | simp_all
      rw [if_pos he] at hK
      conv=>whnf
      skip
      refine ⟨LineS,lineV,?_⟩
      exact hK _ rfl
  · have h : ((j : Int) < (pr.length : Int)):=of_decide_eq_true (by assumption)
    show j < pr.length
    omega
  have hj2 : j < pr.length:=by
    have h : ((j : Int) < (pr.length : Int)):=of_decide_eq_true (by assumption)
    omega
  have hst:=parseCs_step hj2 hcs
  conv=>whnf
  skip
  refine ⟨pr[j],rfl,?_,fun c b hb1 hb2=>?_⟩
  · have:=hsl pr[j] (by simp)
    omega
  repeat' first | (refine fun (b : Bool) hb=>?_; cases b <;> (first | exact absurd hb (by decide) | exact Bool.noConfusion (show true = false from hb) | exact Bool.noConfusion (show false = true from hb) | skip)) | refine And.intro (a:=I64 _) ?_ ?_ | refine And.intro (a:=_ ≤ 140737488355328) ?_ ?_ | refine ⟨rfl,?_⟩ | fail
  · refine Nat.le_trans (Nat.mul_le_mul_right _ (show _ ≤ 8002 from ?_)) (by decide)
    simp only [List.length_map,List.length_cons,List.length_nil]
    omega
  · show I64 ((j : Int) + 1)
    unfold I64; omega
  · have hc:=hst.2 c (hb1 (by simpa using ‹(!b) = false›))
    refine ⟨(j + 1,cs ++ [c]),?_,⟨by omega,hc,by simp; omega⟩,by omega⟩
    show Wk _ _ _ _ [.row 3 (l.map lineV),.box [.sl strV (Lib.split p0 [32]),.own 2,.str (Lib.cut (Lib.cut s [10]).1 toB).2.1],.row 3 ((cs ++ [c]).map cmdV)]
    rw [List.map_append]
    exact (by (refine wk_sel [some 0,some 1,some 5] rfl rfl ?_ ?_ <;> (repeat' (first | exact True.intro | exact rfl | exact Or.inl rfl | exact Or.inr rfl | refine And.intro ?_ ?_ | fail))))
  · have hc:=hst.1 (hb2 (by simpa using ‹(!b) = true›))
    rw [lineP_none h2 (by rw [hp]; exact hc),if_pos (by decide)] at hK
    conv=>whnf
    skip
    refine ⟨LineS,lineV,?_⟩
    exact hK _ rfl
end Gv
namespace Gv
variable [Glob] [Laid]
theorem joinS_ca : callable Tryz.prog 103 = true:=by kernel_rfl
def joinS_S : Spec:=fun args K=>∃ (l : List Bs) (sep : Bs),args = [.sl strV l,.str sep] ∧ (l.length ≤ 140737488355328 ∧ (Lib.join l sep).length ≤ 140737488355328) ∧ K (.str (Lib.join l sep))
set_option maxHeartbeats 4000000 in
theorem joinS_ok : Pure Tryz.prog 103 joinS_S:=by
  intro w m args us K hm hg hv hT
  obtain ⟨l,sep,rfl,⟨h1,h2⟩,hK⟩:=hT
  obtain ⟨a,b,rfl,ha,hb⟩:=args2 hv.1 hv.2
  obtain ⟨p,c,rfl,hlc,hc,hp⟩:=strs_open ha hm
  obtain ⟨rfl,-⟩:=vr_str hb
  by_cases hl : l = []
  · subst hl
    refine (Tryz.strings_Join_none p c (ba sep) w).mono fun e w' ⟨he,hw⟩=>?_
    subst hw
    exact ⟨_,_,he,Bel.refl _ _,hK,.str (s:=[]) (Nat.zero_le _)⟩
  · obtain ⟨bk,o,rfl,hbk,hx,hx2⟩:=hp hl
    have e1 : (l.map ba).map (fun x=>x.data.toList) = l:=by
      rw [List.map_map]
      conv=>rhs; rw [← List.map_id l]
      rfl
    have e2 : (l.map ba).length = l.length:=List.length_map ..
    have:=Tryz.strings_Join bk o c (l.map ba) (ba sep) w (fun j x hj=>by
      rw [List.getElem?_map] at hj
      obtain ⟨y,hy,rfl⟩:=Option.map_eq_some_iff.1 hj
      exact hx j y hy) hbk (by rw [e2]; exact h1) (by rw [e2]; exact hlc) (by rw [e1]; exact h2)
    rw [e1,e2] at this
    refine this.mono fun e w' ⟨he,hw⟩=>?_
    exact ⟨_,_,he,Bel.of_below hw,hK,.str (by have:=h2; unfold MAXL; show (Lib.join l sep).length ≤ _; omega)⟩
end Gv
namespace Gv
variable [Glob] [Laid]
set_option maxHeartbeats 4000000 in
set_option maxRecDepth 100000 in
theorem ccB_used (b : Nat) (w : World) (h0 : w.cell? ⟨b, 0, none⟩ = some (.pointer (some ⟨b, 0, none⟩))) :
    Calls Tryz.prog 173 #[.pointer (some ⟨b,0,none⟩)] w fun e w'=>e = .returned (.tuple #[]) ∧ w' = w:=by
  obtain ⟨j,hj,hjs⟩:=Option.map_eq_some_iff.1 (show (Tryz.prog.info? 142).map (·.size) = some 2 by kernel_rfl)
  have mixed:=mixed0
  have t72:=Tryz.underlying142; have a72:=Tryz.isAgg142; have z72:=Tryz.sizeOf142; have v72:=Tryz.zeroValue142; have u72:=run_underlying Tryz.underlying142
  have t70:=Tryz.underlying140; have a70:=Tryz.isAgg140; have z70:=Tryz.sizeOf140; have v70:=Tryz.zeroValue140; have u70:=run_underlying Tryz.underlying140
  go_enter Tryz.func173,Tryz.ntmps173
  go_wp2
  rw [Lib.run_neq_ptr_same w _ Tryz.underlying140 hj]
  go_wp2
  go_end0
  exact ⟨rfl,rfl⟩
set_option maxHeartbeats 4000000 in
set_option maxRecDepth 100000 in
theorem ccB_fresh (b : Nat) (w : World) (h0 : w.cell? ⟨b, 0, none⟩ = some (.pointer none)) (hsh : w.shape? b = some (142, 2)) (hfz : w.frozen? ⟨b, 0, none⟩ = false) :
    Calls Tryz.prog 173 #[.pointer (some ⟨b,0,none⟩)] w fun e w'=>e = .returned (.tuple #[]) ∧ w' = w.setCell ⟨b,0,none⟩ (.pointer (some ⟨b,0,none⟩)):=by
  obtain ⟨j,hj,hjs⟩:=Option.map_eq_some_iff.1 (show (Tryz.prog.info? 142).map (·.size) = some 2 by kernel_rfl)
  have lies : liesAt Tryz.prog Tryz.prog.depth 142 (2 / Tryz.prog.cellsOf 142) 0 142 1 = true:=by kernel_rfl
  have mixed:=mixed0
  have t72:=Tryz.underlying142; have a72:=Tryz.isAgg142; have z72:=Tryz.sizeOf142; have v72:=Tryz.zeroValue142; have u72:=run_underlying Tryz.underlying142
  have t70:=Tryz.underlying140; have a70:=Tryz.isAgg140; have z70:=Tryz.sizeOf140; have v70:=Tryz.zeroValue140; have u70:=run_underlying Tryz.underlying140
  go_enter Tryz.func173,Tryz.ntmps173
  go_wp2
  rw [Lib.run_to_unsafe w ⟨b,0,none⟩ Tryz.underlying140 Tryz.underlying200 hj (by rw [hjs]; decide) hsh (Nat.zero_lt_succ 1)]
  simp only [Result.andThen]
  rw [Oper.upon_value]
  go_wp2
  rw [run_callFunc_extern Tryz.func238 (by kernel_rfl) (by kernel_rfl) (by kernel_rfl) (e:=Extern.AbiNoEscape.same) (by kernel_rfl)]
  rw [Lib.run_noEscape]
  simp only [Result.andThen]
  rw [Oper.upon_value]
  go_wp2
  rw [Lib.run_from_unsafe w ⟨b,0,none⟩ Tryz.underlying200 Tryz.underlying140 hj hsh lies]
  simp only [Result.andThen]
  rw [Oper.upon_value]
  go_wp2
  go_end0
  exact ⟨rfl,rfl⟩
theorem ccB_ca : callable Tryz.prog 173 = true:=by kernel_rfl
def ccB_P : PSpec:=fun args rows K=>∃ (p b : V) (rest : Rows),args = [.ptr 0 0 0] ∧ rows = .bx (some 142) [p,b] :: rest ∧ (p = .raw (.pointer none) ∨ p = .ptr 0 0 0) ∧ K (.tup []) (.bx (some 142) [.ptr 0 0 0,b] :: rest)
set_option maxHeartbeats 4000000 in
theorem ccB_prim : PrimOK Tryz.prog 173 ccB_P:=by
  intro w0 m0 args rows k R m q w us C hv hT
  obtain ⟨p,b,rest,rfl,rfl,hp,hK⟩:=hT
  have hl : us.length = 1:=by rw [← hv.len]; rfl
  obtain ⟨u,rfl⟩ : ∃ u,us = [u]:=by
    match us,hl with
    | [u],_=>exact ⟨u,rfl⟩
  have hu:=hv.el 0 (.ptr 0 0 0) u rfl rfl
  refine ⟨ccB_ca,?_⟩
  obtain ⟨blk,arr,T',g1,g2,gT,g3,g4⟩:=C.rok.row 0 _ rfl
  have hTT:=gT _ rfl
  subst hTT
  have hown:=(C.sit.own _ _ g2).2.1
  obtain ⟨a0,e0,f0,v0⟩:=g4 0 p rfl
  obtain ⟨a1,e1,f1,v1⟩:=g4 1 b rfl
  have h2 : arr.size = 2:=g3
  have harr : arr = #[a0,a1]:=by
    have h0:=(Array.getElem?_eq_some_iff.1 e0)
    have h1:=(Array.getElem?_eq_some_iff.1 e1)
    apply Array.ext (by simp [h2])
    intro i hi1 hi2
    rw [h2] at hi1
    match i,hi1 with
    | 0,_=>exact h0.2
    | 1,_=>exact h1.2
  have hpu : u = .pointer (some ⟨blk,0,none⟩):=by
    cases hu with
    | ptr h=>rw [g1] at h; cases h; rfl
  subst hpu
  have hvr : ∀ q' : Loc,q'.Le q' → q' 0 = q 0 → VR m q' (.ptr 0 0 0) (.pointer (some ⟨blk,0,none⟩)):=fun q' _ e=>by
    have : VR m q' (.ptr 0 0 0) (.pointer (some ⟨blk,0 * 2 + 0,none⟩)):=.ptr (by rw [e]; exact g1)
    simpa using this
  rcases hp with rfl | rfl
  · have ha : a0 = .pointer none:=by cases v0; rfl
    subst ha
    refine (ccB_fresh blk w (by simp [World.cell?,hown,harr]) (by simp [World.shape?,hown,h2]) (by simp [World.frozen?,hown])).mono fun e w' ⟨he,hw⟩=>?_
    subst hw
    have hb : Bel [blk] w (w.setCell ⟨blk,0,none⟩ (.pointer (some ⟨blk,0,none⟩))):=Bel.setCell w _ (.inr (by simp))
    have hh : (w.setCell ⟨blk,0,none⟩ (.pointer (some ⟨blk,0,none⟩))).heap[blk]? = some (.cells #[.pointer (some ⟨blk,0,none⟩),a1] 142 (0,0)):=by
      rw [setCell_heap _ hown]
      simp [harr]
    have C2:=C.store (r:=0) (x:=.bx (some 142) [.raw (.pointer none),b]) (y:=.bx (some 142) [.ptr 0 0 0,b]) rfl rfl g1 g2 hb hh ⟨blk,#[.pointer (some ⟨blk,0,none⟩),a1],142,g1,by simp [Mem.put],gT,rfl,fun j v ej=>by
      match j,ej with
      | 0,ej =>
        simp at ej
        subst ej
        exact ⟨_,rfl,rfl,hvr q (Loc.Le.refl q) rfl⟩
      | 1,ej =>
        simp at ej
        subst ej
        exact ⟨_,rfl,f1,v1⟩⟩
    exact ⟨_,he,_,_,_,_,_,hK,C2,Mem.Le.refl m,Loc.Le.refl q,.tup (us:=[]) rfl fun i v u h=>by simp at h⟩
  · have ha : a0 = .pointer (some ⟨blk, 0, none⟩) := by
      cases v0 with
      | ptr h=>rw [g1] at h; cases h; rfl
    subst ha
    refine (ccB_used blk w (by simp [World.cell?,hown,harr])).mono fun e w' ⟨he,hw⟩=>?_
    subst hw
    exact ⟨_,he,_,_,_,_,_,hK,C,Mem.Le.refl m,Loc.Le.refl q,.tup (us:=[]) rfl fun i v u h=>by simp at h⟩
end Gv
namespace Gv
variable [Glob] [Laid]
set_option maxHeartbeats 4000000 in
set_option maxRecDepth 100000 in
theorem wsB_calls {b : Nat} {w : World} {s : List UInt8} {G : Ending → World → Prop} {H : Value → World → Prop}
    (hcc : Calls Tryz.prog 173 #[.pointer (some ⟨b,0,none⟩)] w G)
    (hG : ∀ e w1,G e w1 → ∃ v1 v2 v' w2,e = .returned (.tuple #[]) ∧ w1.heap[b]? = some (.cells #[.pointer (some ⟨b,0,none⟩),v1] 142 (0,0)) ∧ (∃ a n c,v1 = .slice a n c) ∧ (∃ a n c,v' = .slice a n c) ∧
      (Builtin.append_ #[29,9] 29 #[v1,(.string ⟨s.toArray⟩)]).run Tryz.prog w1 = .ok v' w2 ∧ w2.heap[b]? = some (.cells #[.pointer (some ⟨b,0,none⟩),v2] 142 (0,0)) ∧ H v' w2) :
    Calls Tryz.prog 108 #[.pointer (some ⟨b,0,none⟩),(.string ⟨s.toArray⟩)] w fun e w'=>∃ v' w2,e = .returned (.tuple #[.int .i64 (s.length : Int),.nilIface]) ∧ w' = w2.setCell ⟨b,1,none⟩ v' ∧ H v' w2:=by
  have mixed:=mixed0
  have t72:=Tryz.underlying142; have a72:=Tryz.isAgg142; have z72:=Tryz.sizeOf142; have v72:=Tryz.zeroValue142; have u72:=run_underlying Tryz.underlying142
  have t70:=Tryz.underlying140; have a70:=Tryz.isAgg140; have z70:=Tryz.sizeOf140; have v70:=Tryz.zeroValue140; have u70:=run_underlying Tryz.underlying140
  have t37:=Tryz.underlying29; have a37:=Tryz.isAgg29; have z37:=Tryz.sizeOf29; have v37:=Tryz.zeroValue29; have u37:=run_underlying Tryz.underlying29
  have t9:=Tryz.underlying9; have a9:=Tryz.isAgg9; have z9:=Tryz.sizeOf9; have v9:=Tryz.zeroValue9; have u9:=run_underlying Tryz.underlying9
  have e240 : ∀ args w,(callFunc 173 args).run Tryz.prog w = .ok (.enter 173 args) w:=enters_of Tryz.func173 (by kernel_rfl) rfl
  go_enter Tryz.func108,Tryz.ntmps108
  go_wp2_with (go_at_fn 173; refine hcc.mono ?_)
  intro e w1 he
  obtain ⟨v1,v2,v',w2,rfl,hb1,⟨va,vn,vc,rfl⟩,⟨va',vn',vc',rfl⟩,hr,hb2,hH⟩:=hG e w1 he
  have c0 : w1.cell? ⟨b,0,none⟩ = some (.pointer (some ⟨b,0,none⟩)):=by simp [World.cell?,hb1]
  have c1 : w1.cell? ⟨b,1,none⟩ = some (.slice va vn vc):=by simp [World.cell?,hb1]
  have d0 : w2.cell? ⟨b,0,none⟩ = some (.pointer (some ⟨b,0,none⟩)):=by simp [World.cell?,hb2]
  have d1 : w2.cell? ⟨b,1,none⟩ = some v2:=by simp [World.cell?,hb2]
  have f1 : w2.frozen? ⟨b,1,none⟩ = false:=by simp [World.frozen?,hb2]
  go_wp2_with (at_builtin; refine wpl_append rfl _ _ 29 9 rfl rfl rfl hr ?_)
  clear c1
  go_wp2
  go_ret2
  exact ⟨_,_,rfl,rfl,hH⟩
theorem wsB_ca : callable Tryz.prog 108 = true:=by kernel_rfl
def wsB_P : PSpec:=fun args rows K=>∃ (s : Bs),s ≠ [] ∧ args = [.ptr 0 0 0,.str s] ∧ ((rows = [.bx (some 142) [.raw (.pointer none),.nil]] ∧ s.length ≤ 140737488355328 ∧ K (.tup [.int .i64 (s.length : Int),.raw .nilIface]) [.bx (some 142) [.ptr 0 0 0,.own 1],.byt 5 s]) ∨ ∃ l : Bs,rows = [.bx (some 142) [.ptr 0 0 0,.own 1],.byt 5 l] ∧ l.length + s.length ≤ 140737488355328 ∧ K (.tup [.int .i64 (s.length : Int),.raw .nilIface]) [.bx (some 142) [.ptr 0 0 0,.own 2],.dead,.byt 5 (l ++ s)])
set_option maxHeartbeats 4000000 in
theorem wsB_prim : PrimOK Tryz.prog 108 wsB_P:=by
  intro w0 m0 args rows k R m q w us C hv hT
  obtain ⟨s,hne,rfl,hT⟩:=hT
  have hl : us.length = 2:=by rw [← hv.len]; rfl
  obtain ⟨u,u',rfl⟩ : ∃ u u',us = [u,u']:=by
    match us,hl with
    | [u,u'],_=>exact ⟨u,u',rfl⟩
  have hu:=hv.el 0 (.ptr 0 0 0) u rfl rfl
  have hu':=hv.el 1 (.str s) u' rfl rfl
  obtain ⟨rfl,hsl⟩:=vr_str hu'
  obtain ⟨zb,zE,hzE,hz1⟩ : ∃ g z,tyOf Tryz.prog 5 = some (z,1,1,g) ∧ z.cells.size = 1:=⟨false,.int .u8 0,by kernel_rfl,rfl⟩
  obtain ⟨blk,n,c,kk,hq0,rfl⟩ : ∃ b n c k,q 0 = some (some b,n,c,k) ∧ u = .pointer (some ⟨b,0,none⟩):=by
    cases hu with
    | ptr h=>exact ⟨_,_,_,_,h,by simp⟩
  have hv1 : VRL m q [.ptr 0 0 0] [.pointer (some ⟨blk,0,none⟩)]:=⟨rfl,fun i v u e e'=>by
    match i,e,e' with
    | 0,e,e' =>
      simp at e e'
      subst e e'
      exact hu⟩
  refine ⟨wsB_ca,?_⟩
  rcases hT with ⟨rfl,hz,hK⟩ | ⟨l,rfl,hz,hK⟩
  · obtain ⟨-, hcc⟩ := ccB_prim w0 m0 [.ptr 0 0 0] [.bx (some 142) [.raw (.pointer none), .nil]] (fun v rows' => v = .tup [] ∧ rows' = [.bx (some 142) [.ptr 0 0 0, .nil]]) R m q w [.pointer (some ⟨blk, 0, none⟩)] C hv1
      ⟨.raw (.pointer none),.nil,[],rfl,rfl,.inl rfl,rfl,rfl⟩
    refine (wsB_calls (b:=blk) (s:=s) (H:=fun v' w2=>∃ R2 m2 q2,Cf w0 m0 [.bx (some 142) [.ptr 0 0 0,.nil],.byt 5 s] R2 m2 q2 w2 ∧ m.Le m2 ∧ q.Le q2 ∧ VR m2 q2 (.own 1) v') hcc ?_).mono ?_
    · rintro e w1 ⟨ue,rfl,ve,rows1,R1,m1,q1,⟨rfl,rfl⟩,C1,hm1,hq1,hve⟩
      obtain ⟨a1,x1,x2,x3,x4,x5⟩:=bld_cell C1 (r:=0) rfl (hq1 _ _ hq0)
      cases x3
      obtain ⟨nc,w2,R2,y1,y2,y3,y4⟩:=byt_new (P:=Tryz.prog) (T:=29) (U:=9) Tryz.underlying29 hzE hz1 Tryz.underlying9 C1 hne hz 29
      obtain ⟨a2,z1,z2,z3,z4,z5⟩:=bld_cell y3 (r:=0) rfl ((C1.le_add _) _ _ (hq1 _ _ hq0))
      refine ⟨_,a2,_,w2,by cases hve with | tup hl he=>(match hl with | hl=>(cases ‹List Value› with | nil=>rfl | cons a b=>simp at hl)),x2,⟨_,_,_,rfl⟩,⟨_,_,_,rfl⟩,y1,z2,R2,m1,_,y3,hm1,hq1.trans (C1.le_add _),.own (add_self _ _ _)⟩
    · rintro e w' ⟨v',w2,rfl,rfl,R2,m2,q2,C2,hm2,hq2,hv2⟩
      obtain ⟨R3,C3⟩:=bld_put C2 (r:=0) rfl (hq2 _ _ hq0) hv2 (hv2.one rfl)
      refine ⟨_,rfl,_,_,R3,m2,q2,hK,C3,hm2,hq2,?_⟩
      exact .tup rfl fun i v u e e'=>by
        match i,e,e' with
        | 0,e,e'=>simp at e e'; subst e e'; exact .int
        | 1,e,e'=>simp at e e'; subst e e'; exact .raw
  · obtain ⟨-, hcc⟩ := ccB_prim w0 m0 [.ptr 0 0 0] [.bx (some 142) [.ptr 0 0 0, .own 1], .byt 5 l] (fun v rows' => v = .tup [] ∧ rows' = [.bx (some 142) [.ptr 0 0 0, .own 1], .byt 5 l]) R m q w [.pointer (some ⟨blk, 0, none⟩)] C hv1
      ⟨.ptr 0 0 0,.own 1,[.byt 5 l],rfl,rfl,.inr rfl,rfl,rfl⟩
    refine (wsB_calls (b:=blk) (s:=s) (H:=fun v' w2=>∃ R2 m2 q2,Cf w0 m0 [.bx (some 142) [.ptr 0 0 0,.own 1],.dead,.byt 5 (l ++ s)] R2 m2 q2 w2 ∧ m.Le m2 ∧ q.Le q2 ∧ VR m2 q2 (.own 2) v') hcc ?_).mono ?_
    · rintro e w1 ⟨ue,rfl,ve,rows1,R1,m1,q1,⟨rfl,rfl⟩,C1,hm1,hq1,hve⟩
      obtain ⟨a1,x1,x2,x3,x4,x5⟩:=bld_cell C1 (r:=0) rfl (hq1 _ _ hq0)
      obtain ⟨gb,gcap,garr,hq11,-⟩:=C1.rok.row 1 _ rfl
      have ha1 : a1 = .slice (some ⟨gb,0,none⟩) l.length gcap:=by
        cases x3 with
        | own h=>rw [hq11] at h; cases h; rfl
      subst ha1
      obtain ⟨b',nc,w2,R2,y1,y2,y3,y4⟩:=byt_app (P:=Tryz.prog) (T:=29) (U:=9) (r:=1) (s:=s) Tryz.underlying29 hzE hz1 Tryz.underlying9 C1 rfl hq11 hz 29
      obtain ⟨a2,z1,z2,z3,z4,z5⟩:=bld_cell y3 (r:=0) rfl ((C1.le_add _) _ _ (hq1 _ _ hq0))
      refine ⟨_,a2,_,w2,by cases hve with | tup hl he=>(match hl with | hl=>(cases ‹List Value› with | nil=>rfl | cons a b=>simp at hl)),x2,⟨_,_,_,rfl⟩,⟨_,_,_,rfl⟩,y1,z2,R2,m1,_,y3,hm1,hq1.trans (C1.le_add _),.own (add_self _ _ _)⟩
    · rintro e w' ⟨v',w2,rfl,rfl,R2,m2,q2,C2,hm2,hq2,hv2⟩
      obtain ⟨R3,C3⟩:=bld_put C2 (r:=0) rfl (hq2 _ _ hq0) hv2 (hv2.one rfl)
      refine ⟨_,rfl,_,_,R3,m2,q2,hK,C3,hm2,hq2,?_⟩
      exact .tup rfl fun i v u e e'=>by
        match i,e,e' with
        | 0,e,e'=>simp at e e'; subst e e'; exact .int
        | 1,e,e'=>simp at e e'; subst e e'; exact .raw
end Gv
namespace Gv
variable [Glob] [Laid]
set_option maxHeartbeats 4000000 in
set_option maxRecDepth 100000 in
theorem stB_nil {b : Nat} {p : Value} {w : World} (hbk : w.heap[b]? = some (.cells #[p, .slice none 0 0] 142 (0, 0))) :
    Calls Tryz.prog 110 #[.pointer (some ⟨b,0,none⟩)] w fun e w'=>e = .returned (Gw.str []) ∧ w' = w.drew:=by
  have hUS : ∀ W q,(Builtin.unsafeString_ #[224,3] 9 #[.pointer q,.int .i64 0]).run Tryz.prog W = .ok (.string .empty) W:=fun W q=>Lib.run_unsafeString_none W _ _ _ q
  have c1 : w.drew.cell? ⟨b,1,none⟩ = some (.slice none 0 0):=by
    have : w.drew.heap[b]? = some (.cells #[p,.slice none 0 0] 142 (0,0)):=hbk
    simp [World.cell?,this]
  have hSD : (Builtin.unsafeSliceData_ #[29] 224 #[.slice none 0 0]).run Tryz.prog w.drew = .ok (.pointer none) w.drew:=rfl
  have mixed:=mixed0
  have t925:=Tryz.underlying142; have a925:=Tryz.isAgg142; have z925:=Tryz.sizeOf142; have v925:=Tryz.zeroValue142; have u925:=run_underlying Tryz.underlying142
  have t557:=Tryz.underlying140; have a557:=Tryz.isAgg140; have z557:=Tryz.sizeOf140; have v557:=Tryz.zeroValue140; have u557:=run_underlying Tryz.underlying140
  have t606:=Tryz.underlying29; have a606:=Tryz.isAgg29; have z606:=Tryz.sizeOf29; have v606:=Tryz.zeroValue29; have u606:=run_underlying Tryz.underlying29
  have t641:=Tryz.underlying224; have a641:=Tryz.isAgg224; have z641:=Tryz.sizeOf224; have v641:=Tryz.zeroValue224; have u641:=run_underlying Tryz.underlying224
  have t621:=Tryz.underlying3; have a621:=Tryz.isAgg3; have z621:=Tryz.sizeOf3; have v621:=Tryz.zeroValue3; have u621:=run_underlying Tryz.underlying3
  have t550:=Tryz.underlying9; have a550:=Tryz.isAgg9; have z550:=Tryz.sizeOf9; have v550:=Tryz.zeroValue9; have u550:=run_underlying Tryz.underlying9
  have t710:=Tryz.underlying5; have a710:=Tryz.isAgg5; have z710:=Tryz.sizeOf5; have v710:=Tryz.zeroValue5; have u710:=run_underlying Tryz.underlying5
  go_enter Tryz.func110,Tryz.ntmps110
  go_wp2
  go_region_o
  all_goals (go_wp2; go_ret; exact ⟨rfl,rfl⟩)
set_option maxHeartbeats 4000000 in
set_option maxRecDepth 100000 in
theorem stB_some {b g cap : Nat} {p : Value} {cur : Array Value} {l : List UInt8} {w : World} (hbk : w.heap[b]? = some (.cells #[p, .slice (some ⟨g, 0, none⟩) l.length cap] 142 (0, 0)))
    (hg : w.heap[g]? = some (.cells cur 5 (0,0))) (h0 : l ≠ []) (hn : l.length ≤ cur.size) (hz : l.length ≤ cap) (h63 : l.length ≤ 9223372036854775807) (hcell : ∀ (j : Nat) x,l[j]? = some x → cur[j]? = some (.int .u8 (x.toNat : Int))) :
    Calls Tryz.prog 110 #[.pointer (some ⟨b,0,none⟩)] w fun e w'=>e = .returned (Gw.str l) ∧ w' = w.drew.freeze ⟨g,0,none⟩ l.length:=by
  have hl0 : l.length ≠ 0:=by simpa using h0
  have c1 : w.drew.cell? ⟨b,1,none⟩ = some (.slice (some ⟨g,0,none⟩) l.length cap):=by
    have : w.drew.heap[b]? = some (.cells #[p,.slice (some ⟨g,0,none⟩) l.length cap] 142 (0,0)):=hbk
    simp [World.cell?,this]
  have hSD : (Builtin.unsafeSliceData_ #[29] 224 #[.slice (some ⟨g,0,none⟩) l.length cap]).run Tryz.prog w.drew = .ok (.pointer (some ⟨g,0,none⟩)) w.drew :=
    Lib.run_unsafeSliceData_row _ _ _ _ _ _ (by omega)
  have hg' : w.drew.heap[g]? = some (.cells cur 5 (0,0)):=hg
  have hUS : (Builtin.unsafeString_ #[224,3] 9 #[.pointer (some ⟨g,0,none⟩),.int .i64 l.length]).run Tryz.prog w.drew = .ok (.string ⟨l.toArray⟩) (w.drew.freeze ⟨g,0,none⟩ l.length) :=
    Lib.run_unsafeString_row w.drew 224 3 9 5 Tryz.underlying224 (by kernel_rfl) g cur.size (by simp [World.shape?,hg']) l h0 hn h63 (fun j x hx=>by
      rw [Addr.add_lit]
      simp only [World.cell?,hg',Nat.zero_add]
      exact hcell j x hx)
  have mixed:=mixed0
  have t925:=Tryz.underlying142; have a925:=Tryz.isAgg142; have z925:=Tryz.sizeOf142; have v925:=Tryz.zeroValue142; have u925:=run_underlying Tryz.underlying142
  have t557:=Tryz.underlying140; have a557:=Tryz.isAgg140; have z557:=Tryz.sizeOf140; have v557:=Tryz.zeroValue140; have u557:=run_underlying Tryz.underlying140
  have t606:=Tryz.underlying29; have a606:=Tryz.isAgg29; have z606:=Tryz.sizeOf29; have v606:=Tryz.zeroValue29; have u606:=run_underlying Tryz.underlying29
  have t641:=Tryz.underlying224; have a641:=Tryz.isAgg224; have z641:=Tryz.sizeOf224; have v641:=Tryz.zeroValue224; have u641:=run_underlying Tryz.underlying224
  have t621:=Tryz.underlying3; have a621:=Tryz.isAgg3; have z621:=Tryz.sizeOf3; have v621:=Tryz.zeroValue3; have u621:=run_underlying Tryz.underlying3
  have t550:=Tryz.underlying9; have a550:=Tryz.isAgg9; have z550:=Tryz.sizeOf9; have v550:=Tryz.zeroValue9; have u550:=run_underlying Tryz.underlying9
  have t710:=Tryz.underlying5; have a710:=Tryz.isAgg5; have z710:=Tryz.sizeOf5; have v710:=Tryz.zeroValue5; have u710:=run_underlying Tryz.underlying5
  go_enter Tryz.func110,Tryz.ntmps110
  go_wp2
  go_region_o
  all_goals (go_wp2; go_ret; exact ⟨rfl,rfl⟩)
theorem stB_ca : callable Tryz.prog 110 = true:=by kernel_rfl
def stB_P : PSpec:=fun args rows K=>args = [.ptr 0 0 0] ∧ ((∃ p,rows = [.bx (some 142) [p,.nil]] ∧ K (.str []) [.bx (some 142) [p,.nil]]) ∨ ∃ (p : V) (l : Bs),l ≠ [] ∧ l.length ≤ 140737488355328 ∧ rows = [.bx (some 142) [p,.own 1],.byt 5 l] ∧ K (.str l) [.dead,.dead])
set_option maxHeartbeats 4000000 in
theorem stB_prim : PrimOK Tryz.prog 110 stB_P:=by
  intro w0 m0 args rows k R m q w us C hv hT
  obtain ⟨rfl,hT⟩:=hT
  have hl : us.length = 1:=by rw [← hv.len]; rfl
  obtain ⟨u,rfl⟩ : ∃ u,us = [u]:=by
    match us,hl with
    | [u],_=>exact ⟨u,rfl⟩
  have hu:=hv.el 0 (.ptr 0 0 0) u rfl rfl
  obtain ⟨blk,n,c,kk,hq0,rfl⟩ : ∃ b n c k,q 0 = some (some b,n,c,k) ∧ u = .pointer (some ⟨b,0,none⟩):=by
    cases hu with
    | ptr h=>exact ⟨_,_,_,_,h,by simp⟩
  refine ⟨stB_ca,?_⟩
  rcases hT with ⟨p,rfl,hK⟩ | ⟨p,l,h0,hz,rfl,hK⟩
  · obtain ⟨a0,a1,g1,g2,g3⟩:=bld_any C (r:=0) rfl hq0
    cases g3
    refine (stB_nil g2).mono fun e w' ⟨he,hw⟩=>?_
    subst hw
    exact ⟨_,he,_,_,R,m,q,hK,⟨C.sit.step (Bel.drew [] w),C.rok⟩,Mem.Le.refl m,Loc.Le.refl q,.str (s:=[]) (Nat.zero_le _)⟩
  · obtain ⟨a0,a1,g1,g2,g3⟩:=bld_any C (r:=0) rfl hq0
    obtain ⟨gb,cap,arr,d1,d2,d3,d4,d5,d6⟩:=C.rok.row 1 _ rfl
    have ha1 : a1 = .slice (some ⟨gb,0,none⟩) l.length cap:=by
      cases g3 with
      | own h=>rw [d1] at h; cases h; rfl
    subst ha1
    have hgb:=(C.sit.own _ _ d4).2.1
    refine (stB_some g2 hgb h0 (by omega) d2 (by omega) d6).mono fun e w' ⟨he,hw⟩=>?_
    subst hw
    obtain ⟨o',ho',hbel⟩:=freeze_bel (w:=w.drew) (g:=gb) (n:=l.length) (show w.drew.heap[gb]? = _ from hgb)
    have C2:=C.store (r:=1) (y:=.dead) rfl rfl d1 d4 ((Bel.drew [gb] w).trans hbel) ho' trivial
    have C3:=C2.kill (r:=0) rfl
    exact ⟨_,he,_,_,_,m,q,hK,C3,Mem.Le.refl m,Loc.Le.refl q,.str (by omega)⟩
end Gv
namespace Gv
variable [Glob] [Laid] [Nums]
theorem prnS_ca : callable Tryz.prog 39 = true:=by kernel_rfl
def prnS_S : Spec:=fun args K=>∃ (l : List LineS),args = [.sl lineV l] ∧ K (.tup [.str (printS l).1,.int .i64 (printS l).2])
noncomputable def prnS_lib : List (Nat × Spec):=[(43,scheckS_S),(109,wordsS_S),(103,joinS_S),(107,itoa_S)]
noncomputable def prnS_fns : List (Nat × FnI):=[]
noncomputable def prnS_prims : List (Nat × PSpec):=[(108,wsB_P),(110,stB_P)]
theorem prnS_E : EnvOK ⟨Tryz.prog,tys,prnS_lib,prnS_fns,prnS_prims,[(142,[])]⟩:=env_ok mixed0 tys0 (.cons scheckS_ca scheckS_ok (.cons wordsS_ca wordsS_ok (.cons joinS_ca joinS_ok (.cons itoa_ca itoa_ok .nil)))) .nil (.cons wsB_prim (.cons stB_prim .nil)) (by kernel_rfl)
set_option maxHeartbeats 16000000 in
theorem prnS_ok : Pure Tryz.prog 39 prnS_S:=by
  refine pure_by prnS_E 6 (fi:={fn:=Tryz.f39,hooks:=[9],draws:=[(12,[0,0,2,7,15,31])]}) ⟨Tryz.func39,by kernel_rfl,by kernel_rfl⟩ ?_
  rintro _ K ⟨l,rfl,hK⟩
  replace hK : ∀ r,r = .tup [.str (printS l).1,.int .i64 (printS l).2] → K r:=fun r h=>h ▸ hK
  skip
  refine ⟨l,rfl,?_⟩
  unfold printS at hK
  generalize he : checkS l = e at hK ⊢
  repeat' first | (refine fun (b : Bool) hb=>?_; cases b <;> (first | exact absurd hb (by decide) | exact Bool.noConfusion (show true = false from hb) | exact Bool.noConfusion (show false = true from hb) | skip)) | (refine fun (hl : _ ≤ MAXL)=>?_) | fail
  rotate_left
  · refine hK _ ?_
    rw [if_pos (by grind)]
  have h0 : e = 0:=by grind
  subst h0
  simp only [ne_eq,not_true_eq_false,if_false] at hK
  obtain ⟨hl6,hlc⟩:=checkS_of he
  conv=>whnf
  refine loop_live [5,15,16] (σ:=Nat × Bs) (fun s=>[(17,.int .i64 s.1)]) (fun s=>[.bx (some 142) (bldC s.2),bldB 5 s.2]) (fun s=>s.1 ≤ l.length ∧ s.2 = ((l.take s.1).map printL).flatten ∧ s.2.length ≤ s.1 * 1000) (fun s=>l.length - s.1) (0,[]) ?_
  conv=>whnf
  refine ⟨(by (refine wk_sel [some 0,some 0] rfl rfl ?_ ?_ <;> (repeat' (first | exact True.intro | exact rfl | exact Or.inl rfl | exact Or.inr rfl | refine And.intro ?_ ?_ | fail)))),⟨Nat.zero_le _,rfl,Nat.zero_le _⟩,fun s hs=>?_⟩
  obtain ⟨i,d⟩:=s
  obtain ⟨hi,hd,hdl⟩:=hs
  dsimp only at hi hd hdl
  repeat' first | (refine fun (b : Bool) hb=>?_; cases b <;> (first | exact absurd hb (by decide) | exact Bool.noConfusion (show true = false from hb) | exact Bool.noConfusion (show false = true from hb) | skip)) | refine ⟨_,rfl,?_,rfl,?_⟩ | fail
  · have hil : i = l.length:=by grind
    subst hil
    rw [List.take_length] at hd
    rw [← hd] at hK
    cases d with
    | nil =>
      conv=>whnf
      refine ⟨rfl,.inl ⟨_,rfl,?_⟩⟩
      skip
      exact hK _ rfl
    | cons c0 d0 =>
      conv=>whnf
      refine ⟨rfl,.inr ⟨_,_,List.cons_ne_nil _ _,by omega,rfl,?_⟩⟩
      skip
      exact hK _ rfl
  · grind
  have hi2 : i < l.length:=by grind
  obtain ⟨f1,f2,f3,f4,f5,f6,f7⟩:=line_facts (hlc l[i] (List.getElem_mem hi2))
  generalize hx : l[i] = x at f1 f2 f3 f4 f5 f6 f7
  generalize hJ : Lib.join x.frm [32] = J at f4 f5
  obtain ⟨j0,j1,rfl⟩ : ∃ a b,J = a :: b:=by
    cases J with
    | nil=>exact absurd rfl f5
    | cons a b=>exact ⟨a,b,rfl⟩
  have hdJ : (d ++ j0 :: j1).length ≤ i * 1000 + 52:=by rw [List.length_append]; omega
  conv=>whnf
  refine join_live [5,7,15,16,17] (σ:=Unit) (fun _=>[(7,.ptr 2 0 0)]) (fun _=>[.bx (some 142) [.ptr 0 0 0,.own 1],.byt 5 (d ++ j0 :: j1),.box [.sl strV x.frm,.sl cmdV x.cmds,.str x.to]]) (fun _=>True) ?_
  conv=>whnf
  refine ⟨?_,fun _ _=>?_⟩
  · cases d with
    | nil =>
      conv=>whnf
      skip
      refine ⟨x.frm,[32],rfl,⟨by omega,by rw [hJ]; simp only [List.length_cons] at f4 ⊢; omega⟩,?_⟩
      conv=>(arg 1; rw [hJ])
      skip
      refine ⟨_,List.cons_ne_nil _ _,rfl,.inl ⟨rfl,by simp only [List.length_cons] at f4 ⊢; omega,?_⟩⟩
      skip
      exact ⟨(),(by (refine wk_sel [some 0,some 3,some 2] rfl rfl ?_ ?_ <;> (repeat' (first | exact True.intro | exact rfl | exact Or.inl rfl | exact Or.inr rfl | refine And.intro ?_ ?_ | fail)))),trivial⟩
    | cons c0 d0 =>
      conv=>whnf
      skip
      refine ⟨x.frm,[32],rfl,⟨by omega,by rw [hJ]; simp only [List.length_cons] at f4 ⊢; omega⟩,?_⟩
      conv=>(arg 1; rw [hJ])
      skip
      refine ⟨_,List.cons_ne_nil _ _,rfl,.inr ⟨_,rfl,by simp only [List.length_cons,List.length_append] at hdl hdJ ⊢; omega,?_⟩⟩
      skip
      exact ⟨(),(by (refine wk_sel [some 0,some 3,some 2] rfl rfl ?_ ?_ <;> (repeat' (first | exact True.intro | exact rfl | exact Or.inl rfl | exact Or.inr rfl | refine And.intro ?_ ?_ | fail)))),trivial⟩
  generalize hd1 : d ++ j0 :: j1 = d1 at hdJ ⊢
  conv=>whnf
  repeat' first | (refine fun (hl : _ ≤ MAXL)=>?_) | fail
  conv=>whnf
  refine loop_live [5,7,15,16,17,26,27] (σ:=Nat × Bs) (fun s=>[(28,.int .i64 s.1)]) (fun s=>[.bx (some 142) [.ptr 0 0 0,.own 1],.byt 5 s.2,.box [.sl strV x.frm,.sl cmdV x.cmds,.str x.to]]) (fun s=>s.1 ≤ x.cmds.length ∧ s.2 = d1 ++ textCs (x.cmds.take s.1) ∧ s.2.length ≤ i * 1000 + 52 + s.1 * 100) (fun s=>x.cmds.length - s.1) (0,d1) ?_
  conv=>whnf
  refine ⟨(by (refine wk_sel [some 0,some 1,some 2] rfl rfl ?_ ?_ <;> (repeat' (first | exact True.intro | exact rfl | exact Or.inl rfl | exact Or.inr rfl | refine And.intro ?_ ?_ | fail)))),⟨Nat.zero_le _,(List.append_nil _).symm,Nat.le_trans hdJ (Nat.le_add_right _ _)⟩,fun s hs=>?_⟩
  obtain ⟨j,e⟩:=s
  obtain ⟨hj,he,hel⟩:=hs
  dsimp only at hj he hel
  repeat' first | (refine fun (b : Bool) hb=>?_; cases b <;> (first | exact absurd hb (by decide) | exact Bool.noConfusion (show true = false from hb) | exact Bool.noConfusion (show false = true from hb) | skip)) | refine ⟨_,rfl,?_,rfl,?_⟩ | fail
  · have hjl : j = x.cmds.length:=by grind
    subst hjl
    rw [List.take_length] at he
    conv=>whnf
    skip
    refine ⟨?_,?_⟩
    · simp only [List.length_append,List.length_cons,List.length_nil,MAXL]; omega
    skip
    refine ⟨?_,?_⟩
    · simp only [List.length_append,List.length_cons,List.length_nil,MAXL]; omega
    skip
    have hab : e ++ ([32,62,32] ++ x.to ++ [10]) = d ++ printL x:=by
      rw [he,← hd1]
      unfold printL textL toB
      rw [hJ]
      simp
    obtain ⟨a0,b0,hcons⟩ : ∃ a b,d ++ printL x = a :: b:=by
      cases hz : d ++ printL x with
      | nil =>
        rw [hz] at hab
        simp at hab
      | cons a b=>exact ⟨a,b,rfl⟩
    have hle : (e ++ ([32,62,32] ++ x.to ++ [10])).length ≤ (i + 1) * 1000:=by
      simp only [List.length_append,List.length_cons,List.length_nil]; omega
    refine ⟨[32,62,32] ++ x.to ++ [10],?_,rfl,.inr ⟨_,rfl,?_,?_⟩⟩
    · simp
    · simp only [List.length_append,List.length_cons,List.length_nil]; omega
    repeat' first | refine And.intro (a:=I64 _) ?_ ?_ | fail
    · (first | omega | (unfold I64; omega) | (simp only [List.length_append,List.length_map,List.length_cons,List.length_nil,Nat.mul_one,Int.ofNat_eq_natCast] at *; omega) | (dsimp only at *; omega) | (unfold I64; dsimp only at *; omega) | (unfold I64; grind) | grind)
    refine ⟨(i + 1,a0 :: b0),?_,⟨by omega,?_,?_⟩,by omega⟩
    · rw [hab,hcons]
      exact (by (refine wk_sel [some 0,some 3] rfl rfl ?_ ?_ <;> (repeat' (first | exact True.intro | exact rfl | exact Or.inl rfl | exact Or.inr rfl | refine And.intro ?_ ?_ | fail))))
    · rw [← hcons,flat_take l i hi2,hx,← hd]
    · rw [← hcons,← hab]; exact hle
  · grind
  have hj2 : j < x.cmds.length:=by grind
  obtain ⟨k,k1,k2,k3,k4,k5,k6⟩:=cmd_print (f7 x.cmds[j] (List.getElem_mem hj2))
  conv=>whnf
  skip
  apply Exists.intro
  apply And.intro
  · exact ⟨rfl,rfl,rfl⟩
  conv=>whnf
  conv=>whnf
  apply Exists.intro
  apply And.intro
  · repeat' first | refine ⟨rfl,?_⟩ | fail
    exact rfl
  conv=>whnf
  apply Exists.intro
  apply And.intro
  · repeat' first | refine ⟨rfl,?_⟩ | fail
    exact rfl
  conv=>whnf
  refine ⟨trivial,?_⟩
  conv=>whnf
  apply Exists.intro
  apply And.intro
  · exact ⟨k,k1,k2,_,k3,rfl,rfl⟩
  conv=>whnf
  refine ⟨trivial,?_⟩
  conv=>whnf
  apply Exists.intro
  apply And.intro
  · refine ⟨?_,rfl,rfl⟩
    simp only [List.length_append,List.length_cons,List.length_nil,MAXL]; omega
  conv=>whnf
  apply Exists.intro
  apply Exists.intro
  apply And.intro
  · refine ⟨barB ++ verb x.cmds[j].kind,by simp [barB],rfl,.inr ⟨_,rfl,?_,?_⟩⟩
    · simp only [barB,List.length_append,List.length_cons,List.length_nil]; omega
    repeat' first | refine ⟨rfl,?_⟩ | fail
    exact rfl
  conv=>whnf
  refine ⟨?_,?_⟩
  · conv=>whnf
    trivial
  have hT : textC x.cmds[j] = verb x.cmds[j].kind ++ (if x.cmds[j].word ≠ [] then 32 :: x.cmds[j].word else []) ++ (if 0 < x.cmds[j].n then 32 :: Lib.itoa x.cmds[j].n else []):=rfl
  have hts:=textCs_take x.cmds j hj2
  repeat' first | (refine fun (b : Bool) hb=>?_; cases b <;> (first | exact absurd hb (by decide) | exact Bool.noConfusion (show true = false from hb) | exact Bool.noConfusion (show false = true from hb) | skip)) | refine And.intro (a:=I64 _) ?_ ?_ | fail
  · (first | omega | (unfold I64; omega) | (simp only [List.length_append,List.length_map,List.length_cons,List.length_nil,Nat.mul_one,Int.ofNat_eq_natCast] at *; omega) | (dsimp only at *; omega) | (unfold I64; dsimp only at *; omega) | (unfold I64; grind) | grind)
  · have hw : x.cmds[j].word = []:=by simp_all
    have hn : ¬ 0 < x.cmds[j].n:=by simp_all
    rw [if_neg (by rw [hw]; simp),if_neg hn,List.append_nil,List.append_nil] at hT
    refine ⟨(j + 1,e ++ (barB ++ verb x.cmds[j].kind)),(by (refine wk_sel [some 0,some 4,some 2] rfl rfl ?_ ?_ <;> (repeat' (first | exact True.intro | exact rfl | exact Or.inl rfl | exact Or.inr rfl | refine And.intro ?_ ?_ | fail)))),⟨by omega,?_,?_⟩,by omega⟩
    · rw [hts,hT,he]; simp
    · simp only [barB,List.length_append,List.length_cons,List.length_nil] at hel ⊢; omega
  · have hw : x.cmds[j].word = []:=by simp_all
    have hn : 0 < x.cmds[j].n:=by simp_all
    have hI:=itoa_le hn k6
    rw [if_neg (by rw [hw]; simp),if_pos hn,List.append_nil] at hT
    conv=>whnf
    skip
    refine ⟨x.cmds[j].n,rfl,by unfold I64; omega,?_⟩
    skip
    refine ⟨?_,?_⟩
    · simp only [List.length_append,List.length_cons,List.length_nil,MAXL]; omega
    skip
    refine ⟨[32] ++ Lib.itoa x.cmds[j].n,by simp,rfl,.inr ⟨_,rfl,?_,?_⟩⟩
    · simp only [barB,List.length_append,List.length_cons,List.length_nil]; omega
    repeat' first | refine And.intro (a:=I64 _) ?_ ?_ | fail
    · (first | omega | (unfold I64; omega) | (simp only [List.length_append,List.length_map,List.length_cons,List.length_nil,Nat.mul_one,Int.ofNat_eq_natCast] at *; omega) | (dsimp only at *; omega) | (unfold I64; dsimp only at *; omega) | (unfold I64; grind) | grind)
    refine ⟨(j + 1,e ++ (barB ++ verb x.cmds[j].kind) ++ ([32] ++ Lib.itoa x.cmds[j].n)),(by (refine wk_sel [some 0,some 5,some 2] rfl rfl ?_ ?_ <;> (repeat' (first | exact True.intro | exact rfl | exact Or.inl rfl | exact Or.inr rfl | refine And.intro ?_ ?_ | fail)))),⟨by omega,?_,?_⟩,by omega⟩
    · rw [hts,hT,he]; simp
    · simp only [barB,List.length_append,List.length_cons,List.length_nil] at hel ⊢; omega
  · have hw : x.cmds[j].word ≠ []:=by simp_all
    rw [if_pos hw] at hT
    conv=>whnf
    skip
    refine ⟨?_,?_⟩
    · simp only [List.length_append,List.length_cons,List.length_nil,MAXL]; omega
    skip
    refine ⟨[32] ++ x.cmds[j].word,by simp,rfl,.inr ⟨_,rfl,?_,?_⟩⟩
    · simp only [barB,List.length_append,List.length_cons,List.length_nil]; omega
    repeat' first | (refine fun (b : Bool) hb=>?_; cases b <;> (first | exact absurd hb (by decide) | exact Bool.noConfusion (show true = false from hb) | exact Bool.noConfusion (show false = true from hb) | skip)) | refine And.intro (a:=I64 _) ?_ ?_ | fail
    · (first | omega | (unfold I64; omega) | (simp only [List.length_append,List.length_map,List.length_cons,List.length_nil,Nat.mul_one,Int.ofNat_eq_natCast] at *; omega) | (dsimp only at *; omega) | (unfold I64; dsimp only at *; omega) | (unfold I64; grind) | grind)
    · have hn : ¬ 0 < x.cmds[j].n:=by simp_all
      rw [if_neg hn,List.append_nil] at hT
      refine ⟨(j + 1,e ++ (barB ++ verb x.cmds[j].kind) ++ ([32] ++ x.cmds[j].word)),(by (refine wk_sel [some 0,some 5,some 2] rfl rfl ?_ ?_ <;> (repeat' (first | exact True.intro | exact rfl | exact Or.inl rfl | exact Or.inr rfl | refine And.intro ?_ ?_ | fail)))),⟨by omega,?_,?_⟩,by omega⟩
      · rw [hts,hT,he]; simp
      · simp only [barB,List.length_append,List.length_cons,List.length_nil] at hel ⊢; omega
    · have hn : 0 < x.cmds[j].n:=by simp_all
      have hI:=itoa_le hn k6
      rw [if_pos hn] at hT
      conv=>whnf
      skip
      refine ⟨x.cmds[j].n,rfl,by unfold I64; omega,?_⟩
      skip
      refine ⟨?_,?_⟩
      · simp only [List.length_append,List.length_cons,List.length_nil,MAXL]; omega
      skip
      refine ⟨[32] ++ Lib.itoa x.cmds[j].n,by simp,rfl,.inr ⟨_,rfl,?_,?_⟩⟩
      · simp only [barB,List.length_append,List.length_cons,List.length_nil]; omega
      repeat' first | refine And.intro (a:=I64 _) ?_ ?_ | fail
      · (first | omega | (unfold I64; omega) | (simp only [List.length_append,List.length_map,List.length_cons,List.length_nil,Nat.mul_one,Int.ofNat_eq_natCast] at *; omega) | (dsimp only at *; omega) | (unfold I64; dsimp only at *; omega) | (unfold I64; grind) | grind)
      refine ⟨(j + 1,e ++ (barB ++ verb x.cmds[j].kind) ++ ([32] ++ x.cmds[j].word) ++ ([32] ++ Lib.itoa x.cmds[j].n)),(by (refine wk_sel [some 0,some 6,some 2] rfl rfl ?_ ?_ <;> (repeat' (first | exact True.intro | exact rfl | exact Or.inl rfl | exact Or.inr rfl | refine And.intro ?_ ?_ | fail)))),⟨by omega,?_,?_⟩,by omega⟩
      · rw [hts,hT,he]; simp
      · simp only [barB,List.length_append,List.length_cons,List.length_nil] at hel ⊢; omega
end Gv
namespace Gv
variable [Glob] [Laid] [Errs] [Nums]
def typedB : Bs:=[97,32,98,32,124,32,107,101,101,112,32,120,32,124,32,104,101,97,100,32,51,32,62,32,99,10]
def typedL : LineS:=⟨[[97],[98]],[⟨1,[120],0⟩,⟨9,[],3⟩],[99]⟩
theorem ty0 : checkS [typedL] = 0:=by decide +kernel
theorem ty1 : ([typedL].map printL).flatten = typedB:=by decide +kernel
theorem ty2 : printS [typedL] = (typedB,0):=by rw [printS_ok ty0,ty1]
theorem ty3 : parseS typedB = ([typedL],0,0):=by
  rw [← ty1]
  exact script_back ty0 (by rw [ty1]; decide)
theorem typed_ca : callable Tryz.prog 41 = true:=by kernel_rfl
def typed_S : Spec:=fun args K=>args = [] ∧ K (.bool true)
noncomputable def typed_lib : List (Nat × Spec):=[(40,parse2S_S),(39,prnS_S)]
noncomputable def typed_fns : List (Nat × FnI):=[]
noncomputable def typed_prims : List (Nat × PSpec):=[]
theorem typed_E : EnvOK ⟨Tryz.prog,tys,typed_lib,typed_fns,typed_prims,[]⟩:=env_ok mixed0 tys0 (.cons parse2S_ca parse2S_ok (.cons prnS_ca prnS_ok .nil)) .nil .nil rfl
set_option maxHeartbeats 8000000 in
theorem typed_ok : Pure Tryz.prog 41 typed_S:=by
  refine pure_by typed_E 6 (fi:={fn:=Tryz.f41,hooks:=[],draws:=[]}) ⟨Tryz.func41,by kernel_rfl,by kernel_rfl⟩ ?_
  rintro _ K ⟨rfl,hK⟩
  replace hK : ∀ r,r = .bool true → K r:=fun r h=>h ▸ hK
  refine ⟨typedB,rfl,?_⟩
  rw [ty3]
  refine ⟨[typedL],rfl,?_⟩
  rw [ty2]
  repeat' first | (refine fun (b : Bool) hb=>?_; cases b <;> (first | exact absurd hb (by decide) | exact Bool.noConfusion (show true = false from hb) | exact Bool.noConfusion (show false = true from hb) | skip)) | (refine fun (hl : _ ≤ MAXL)=>?_) | refine ⟨_,rfl,?_,rfl,?_⟩ | fail
  · decide
  · decide
  · decide
  conv=>whnf
  skip
  exact hK _ rfl
end Gv
namespace Gv
variable [Glob] [Laid]
theorem dropWhile_le {α : Type} (p : α → Bool) : ∀ l : List α,(l.dropWhile p).length ≤ l.length
  | []=>Nat.le_refl _
  | x :: l=>by
    unfold List.dropWhile
    split
    · have:=dropWhile_le p l
      simp; omega
    · exact Nat.le_refl _
theorem trimS_le (s cs : Bs) : (Lib.trimS s cs).length ≤ s.length:=by
  unfold Lib.trimS Lib.trimLeftS Lib.trimRightS
  refine Nat.le_trans (dropWhile_le _ _) ?_
  rw [List.length_reverse]
  refine Nat.le_trans (dropWhile_le _ _) ?_
  rw [List.length_reverse]
  exact Nat.le_refl _
theorem trimS_ca : callable Tryz.prog 102 = true:=by kernel_rfl
def trimS_S : Spec:=fun args K=>∃ (s cs : Bs),args = [.str s,.str cs] ∧ (cs.length < 4294967281 ∧ cs.all (fun b=>decide (b.toNat < 128)) = true) ∧ K (.str (Lib.trimS s cs))
set_option maxHeartbeats 4000000 in
theorem trimS_ok : Pure Tryz.prog 102 trimS_S:=by
  intro w m args us K hm hg hv hT
  obtain ⟨s,cs,rfl,⟨h1,h2⟩,hK⟩:=hT
  obtain ⟨a,b,rfl,ha,hb⟩:=args2 hv.1 hv.2
  obtain ⟨rfl,hs⟩:=vr_str ha
  obtain ⟨rfl,-⟩:=vr_str hb
  refine (Any.strings_Trim_laid Tryz.laysTrim (by kernel_rfl) (ba s) (ba cs) w (by rw [ba_size]; exact hs) (by rw [ba_size]; exact h1) (ascii_of_all h2)).mono fun e w' ⟨he,hw⟩=>?_
  exact ⟨_,_,he,Bel.of_below hw,hK,.str (Nat.le_trans (trimS_le s cs) hs)⟩
end Gv
namespace Gv
variable [Glob] [Laid]
def letters : Bs:=[97,98,99,100,101,102,103,104,105,106,107,108,109,110,111,112,113,114,115,116,117,118,119,120,121,122,48,49,50,51,52,53,54,55,56,57]
theorem letters_word (c : UInt8) : letters.contains c = wordByte c:=by
  have h : ∀ n : Fin 256,letters.contains (UInt8.ofNat n.1) = wordByte (UInt8.ofNat n.1):=by decide +kernel
  have:=h ⟨c.toNat,c.toNat_lt⟩
  simpa using this
theorem dropWhile_nil {α : Type} (p : α → Bool) : ∀ l : List α,l.dropWhile p = [] ↔ l.all p = true
  | []=>by simp
  | x :: l=>by
    unfold List.dropWhile
    split
    · rename_i h
      rw [dropWhile_nil p l]
      simp [h]
    · rename_i h
      simp [h]
theorem dropWhile_head {α : Type} (p : α → Bool) : ∀ (l : List α) x r,l.dropWhile p = x :: r → p x = false
  | [],x,r,h=>by simp at h
  | y :: l,x,r,h=>by
    unfold List.dropWhile at h
    split at h
    · exact dropWhile_head p l x r h
    · rename_i hy
      cases h
      simpa using hy
theorem trim_nil (s cs : Bs) : Lib.trimS s cs = [] ↔ s.all (fun c=>cs.contains c) = true:=by
  unfold Lib.trimS Lib.trimLeftS Lib.trimRightS
  have e : s.all (fun c=>cs.contains c) = s.reverse.all (fun c=>cs.contains c):=by simp
  rw [dropWhile_nil,e,← dropWhile_nil (fun c=>cs.contains c) s.reverse]
  cases hd : s.reverse.dropWhile (fun c=>cs.contains c) with
  | nil=>simp
  | cons x r =>
    have:=dropWhile_head _ _ _ _ hd
    simp at this
    simp [this]
theorem isWordR_ca : callable Tryz.prog 33 = true:=by kernel_rfl
def isWordR_S : Spec:=fun args K=>∃ (s : Bs),args = [.str s] ∧ K (.bool (isWord s))
noncomputable def isWordR_lib : List (Nat × Spec):=[(102,trimS_S)]
noncomputable def isWordR_fns : List (Nat × FnI):=[]
noncomputable def isWordR_prims : List (Nat × PSpec):=[]
theorem isWordR_E : EnvOK ⟨Tryz.prog,tys,isWordR_lib,isWordR_fns,isWordR_prims,[]⟩:=env_ok mixed0 tys0 (.cons trimS_ca trimS_ok .nil) .nil .nil rfl
set_option maxHeartbeats 4000000 in
theorem isWordR_ok : Pure Tryz.prog 33 isWordR_S:=by
  refine pure_by isWordR_E 6 (fi:={fn:=Tryz.f33,hooks:=[],draws:=[]}) ⟨Tryz.func33,by kernel_rfl,by kernel_rfl⟩ ?_
  rintro _ K ⟨s,rfl,hK⟩
  replace hK : ∀ r,r = .bool (isWord s) → K r:=fun r h=>h ▸ hK
  repeat' first | (refine fun (b : Bool) hb=>?_; cases b <;> (first | exact absurd hb (by decide) | exact Bool.noConfusion (show true = false from hb) | exact Bool.noConfusion (show false = true from hb) | skip)) | (refine fun (hl : _ ≤ MAXL)=>?_) | fail
  · refine hK _ ?_
    have : s = []:=by
      have h : decide ((0 : Int) < s.length) = false:=by assumption
      have : ¬ (0 : Int) < s.length:=by simpa using h
      exact List.length_eq_zero_iff.1 (by omega)
    subst this
    rfl
  · refine hK _ ?_
    have h : decide ((s.length : Int) ≤ 12) = false:=by assumption
    have : ¬ (s.length : Int) ≤ 12:=by simpa using h
    have h2 : ¬ s.length ≤ 12:=by omega
    simp [isWord,h2]
  · refine ⟨s,letters,rfl,⟨by decide,by decide⟩,?_⟩
    skip
    refine hK _ ?_
    have h : decide ((s.length : Int) ≤ 12) = true:=by assumption
    have h1 : (s.length : Int) ≤ 12:=by simpa using h
    have h2 : s.length ≤ 12:=by omega
    have h : decide ((0 : Int) < s.length) = true:=by assumption
    have h3 : (0 : Int) < s.length:=by simpa using h
    have h4 : s ≠ []:=fun e=>by subst e; simp at h3
    have e : s.all wordByte = s.all (fun c=>letters.contains c):=by
      congr 1
      funext c
      exact (letters_word c).symm
    have e2:=trim_nil s letters
    congr 1
    simp only [isWord,h2,h4,e,ne_eq,not_false_eq_true,decide_true,Bool.true_and]
    generalize s.all (fun c=>letters.contains c) = t at e2 ⊢
    cases t
    · simpa using e2
    · simpa using e2
end Gv
namespace Gv
variable [Glob] [Laid]
def usesTab : List (List Int × Bs):=[([1],[119]),([2],[119]),([3],[119]),([4],[110]),([5],[45]),([6],[45]),([7],[45]),([8],[45]),([9],[110]),([10],[110])]
theorem uses_cases (c : Cmd) : (mget [] usesTab [c.kind] = [] ∧ (c.kind < 1 ∨ 10 < c.kind)) ∨ (mget [] usesTab [c.kind] = [119] ∧ (1 ≤ c.kind ∧ c.kind ≤ 10) ∧ useWord c = true ∧ useN c = false) ∨ (mget [] usesTab [c.kind] = [110] ∧ (1 ≤ c.kind ∧ c.kind ≤ 10) ∧ useWord c = false ∧ useN c = true ∧ c.kind ≠ 3) ∨ (mget [] usesTab [c.kind] = [45] ∧ (1 ≤ c.kind ∧ c.kind ≤ 10) ∧ useWord c = false ∧ useN c = false ∧ c.kind ≠ 3):=by
  unfold useWord useN
  generalize c.kind = k
  by_cases h : 1 ≤ k ∧ k ≤ 10
  · have h2 : k = 1 ∨ k = 2 ∨ k = 3 ∨ k = 4 ∨ k = 5 ∨ k = 6 ∨ k = 7 ∨ k = 8 ∨ k = 9 ∨ k = 10:=by omega
    rcases h2 with rfl | rfl | rfl | rfl | rfl | rfl | rfl | rfl | rfl | rfl <;> decide
  · left
    refine ⟨?_,by omega⟩
    have e : ∀ j : Int,1 ≤ j → j ≤ 10 → ¬ [j] = [k]:=fun j h1 h2 e=>by
      simp only [List.cons.injEq,and_true] at e
      omega
    unfold usesTab
    simp only [mget,e 1 (by omega) (by omega),e 2 (by omega) (by omega),e 3 (by omega) (by omega),e 4 (by omega) (by omega),e 5 (by omega) (by omega),e 6 (by omega) (by omega),e 7 (by omega) (by omega),e 8 (by omega) (by omega),e 9 (by omega) (by omega),e 10 (by omega) (by omega),if_false]
theorem ccmdR_ca : callable Tryz.prog 29 = true:=by kernel_rfl
def ccmdR_S : Spec:=fun args K=>∃ (c : Cmd),args = [cmdV c] ∧ K (.int .i64 (checkCmd c))
noncomputable def ccmdR_lib : List (Nat × Spec):=[(33,isWordR_S)]
noncomputable def ccmdR_fns : List (Nat × FnI):=[]
noncomputable def ccmdR_prims : List (Nat × PSpec):=[]
theorem ccmdR_E : EnvOK ⟨Tryz.prog,tys,ccmdR_lib,ccmdR_fns,ccmdR_prims,[]⟩:=env_ok mixed0 tys0 (.cons isWordR_ca isWordR_ok .nil) .nil .nil rfl
set_option maxHeartbeats 4000000 in
theorem ccmdR_ok : Pure Tryz.prog 29 ccmdR_S:=by
  refine pure_by ccmdR_E 6 (fi:={fn:=Tryz.f29,hooks:=[2],draws:=[]}) ⟨Tryz.func29,by kernel_rfl,by kernel_rfl⟩ ?_
  rintro _ K ⟨c,rfl,hK⟩
  replace hK : ∀ r,r = .int .i64 (checkCmd c) → K r:=fun r h=>h ▸ hK
  have hu:=uses_cases c
  skip
  conv=>whnf
  refine join_live [1] (σ:=Bs) (fun u=>[(3,.str u)]) (fun _=>[.box [.int .i64 c.kind,.str c.word,.int .i64 c.n]]) (fun u=>u = mget [] usesTab [c.kind]) ?_
  conv=>whnf
  refine ⟨?_,fun u hu1=>?_⟩
  · repeat' first | refine ⟨_,rfl,?_,rfl,?_⟩ | refine ⟨Bs,strV,?_⟩ | fail
    all_goals try rfl
    refine ⟨[],rfl,?_⟩
    skip
    exact ⟨_,(by (refine wk_auto ?_; refine Sel4.mk rfl rfl ?_ ?_ <;> (repeat' (first | exact True.intro | exact rfl | exact Or.inl rfl | exact Or.inr rfl | refine And.intro ?_ ?_ | fail)))),rfl⟩
  rw [← hu1] at hu
  clear hu1
  unfold checkCmd at hK
  rcases hu with ⟨rfl,h1⟩ | ⟨rfl,h1,h2,h3⟩ | ⟨rfl,h1,h2,h3,h4⟩ | ⟨rfl,h1,h2,h3,h4⟩
  · repeat' first | (refine fun (b : Bool) hb=>?_; cases b <;> (first | exact absurd hb (by decide) | exact Bool.noConfusion (show true = false from hb) | exact Bool.noConfusion (show false = true from hb) | skip)) | fail
    refine hK _ ?_
    rw [if_pos h1]
  all_goals
    have h1' : ¬ (c.kind < 1 ∨ 10 < c.kind):=by omega
  · simp only [h1',h2,h3,if_false] at hK
    repeat' first | (refine fun (b : Bool) hb=>?_; cases b <;> (first | exact absurd hb (by decide) | exact Bool.noConfusion (show true = false from hb) | exact Bool.noConfusion (show false = true from hb) | skip)) | fail
    · refine ⟨c.word,rfl,?_⟩
      repeat' first | (refine fun (b : Bool) hb=>?_; cases b <;> (first | exact absurd hb (by decide) | exact Bool.noConfusion (show true = false from hb) | exact Bool.noConfusion (show false = true from hb) | skip)) | (refine fun (hl : _ ≤ MAXL)=>?_) | fail
      all_goals (refine hK _ ?_; simp_all; try omega)
    · refine hK _ ?_
      simp_all
  · simp only [h1',h2,h3,if_false] at hK
    repeat' first | (refine fun (b : Bool) hb=>?_; cases b <;> (first | exact absurd hb (by decide) | exact Bool.noConfusion (show true = false from hb) | exact Bool.noConfusion (show false = true from hb) | skip)) | fail
    all_goals (refine hK _ ?_; simp_all; try omega)
  · simp only [h1',h2,h3,if_false] at hK
    repeat' first | (refine fun (b : Bool) hb=>?_; cases b <;> (first | exact absurd hb (by decide) | exact Bool.noConfusion (show true = false from hb) | exact Bool.noConfusion (show false = true from hb) | skip)) | fail
    all_goals (refine hK _ ?_; simp_all; done)
end Gv
namespace Gv
variable [Glob] [Laid]
theorem clineR_ca : callable Tryz.prog 19 = true:=by kernel_rfl
def clineR_S : Spec:=fun args K=>∃ (l : LineS),args = [lineV l] ∧ K (.int .i64 (checkLine l))
noncomputable def clineR_lib : List (Nat × Spec):=[(33,isWordR_S),(29,ccmdR_S)]
noncomputable def clineR_fns : List (Nat × FnI):=[]
noncomputable def clineR_prims : List (Nat × PSpec):=[]
theorem clineR_E : EnvOK ⟨Tryz.prog,tys,clineR_lib,clineR_fns,clineR_prims,[]⟩:=env_ok mixed0 tys0 (.cons isWordR_ca isWordR_ok (.cons ccmdR_ca ccmdR_ok .nil)) .nil .nil rfl
set_option maxHeartbeats 4000000 in
theorem clineR_ok : Pure Tryz.prog 19 clineR_S:=by
  refine pure_by clineR_E 6 (fi:={fn:=Tryz.f19,hooks:=[],draws:=[]}) ⟨Tryz.func19,by kernel_rfl,by kernel_rfl⟩ ?_
  rintro _ K ⟨l,rfl,hK⟩
  replace hK : ∀ r,r = .int .i64 (checkLine l) → K r:=fun r h=>h ▸ hK
  obtain ⟨f,c,t⟩:=l
  unfold checkLine at hK
  dsimp only at hK
  repeat' first | (refine fun (b : Bool) hb=>?_; cases b <;> (first | exact absurd hb (by decide) | exact Bool.noConfusion (show true = false from hb) | exact Bool.noConfusion (show false = true from hb) | skip)) | (refine fun (hl : _ ≤ MAXL)=>?_) | fail
  rotate_left
  · refine hK _ ?_
    rw [if_pos (by grind)]
  · refine hK _ ?_
    rw [if_pos (by grind)]
  · refine hK _ ?_
    rw [if_pos (by grind)]
  have h1 : ¬ (f.length = 0 ∨ 4 < f.length ∨ 6 < c.length):=by grind
  rw [if_neg h1] at hK
  conv=>whnf
  refine loop_live [1,25,26] (σ:=Nat) (fun i=>[(27,.int .i64 i)]) (fun _=>[.box [.sl strV f,.sl cmdV c,.str t]]) (fun i=>i ≤ f.length ∧ (f.take i).all isWord = true) (fun i=>f.length - i) 0 ?_
  conv=>whnf
  refine ⟨(by (refine wk_auto ?_; refine Sel4.mk rfl rfl ?_ ?_ <;> (repeat' (first | exact True.intro | exact rfl | exact Or.inl rfl | exact Or.inr rfl | refine And.intro ?_ ?_ | fail)))),⟨Nat.zero_le _,rfl⟩,fun i hi=>?_⟩
  obtain ⟨hi,hI⟩:=hi
  repeat' first | (refine fun (b : Bool) hb=>?_; cases b <;> (first | exact absurd hb (by decide) | exact Bool.noConfusion (show true = false from hb) | exact Bool.noConfusion (show false = true from hb) | skip)) | refine ⟨_,rfl,?_,rfl,?_⟩ | fail
  · have e : f.take i = f:=List.take_of_length_le (by grind)
    rw [e] at hI
    refine ⟨t,rfl,?_⟩
    rw [List.all_append,hI] at hK
    simp only [List.all_cons,List.all_nil,Bool.and_true,Bool.true_and] at hK
    generalize isWord t = wt at hK ⊢
    repeat' first | (refine fun (b : Bool) hb=>?_; cases b <;> (first | exact absurd hb (by decide) | exact Bool.noConfusion (show true = false from hb) | exact Bool.noConfusion (show false = true from hb) | skip)) | (refine fun (hl : _ ≤ MAXL)=>?_) | fail
    rotate_left
    · refine hK _ ?_
      rw [if_pos (by grind)]
    have hwt : ¬ wt = false:=by grind
    rw [if_neg hwt] at hK
    conv=>whnf
    refine loop_live [40,41] (σ:=Nat) (fun i=>[(42,.int .i64 i)]) (fun _=>[.box [.sl strV f,.sl cmdV c,.str t]]) (fun i=>i ≤ c.length ∧ firstBad (c.drop i) = firstBad c) (fun i=>c.length - i) 0 ?_
    conv=>whnf
    refine ⟨(by (refine wk_auto ?_; refine Sel4.mk rfl rfl ?_ ?_ <;> (repeat' (first | exact True.intro | exact rfl | exact Or.inl rfl | exact Or.inr rfl | refine And.intro ?_ ?_ | fail)))),⟨Nat.zero_le _,rfl⟩,fun i hi=>?_⟩
    obtain ⟨hi,hJ⟩:=hi
    repeat' first | (refine fun (b : Bool) hb=>?_; cases b <;> (first | exact absurd hb (by decide) | exact Bool.noConfusion (show true = false from hb) | exact Bool.noConfusion (show false = true from hb) | skip)) | refine ⟨_,rfl,?_,rfl,?_⟩ | fail
    · refine hK _ ?_
      have e : c.drop i = []:=List.drop_eq_nil_of_le (by grind)
      rw [e] at hJ
      rw [← hJ]
      rfl
    · grind
    · have hi2 : i < c.length:=by grind
      have hd : c.drop i = c[i] :: c.drop (i + 1):=List.drop_eq_getElem_cons hi2
      rw [hd] at hJ
      refine ⟨c[i],rfl,?_⟩
      have hb0 : firstBad (c[i] :: c.drop (i + 1)) = if checkCmd c[i] = 0 then firstBad (c.drop (i + 1)) else checkCmd c[i]:=rfl
      generalize checkCmd c[i] = e at hb0 ⊢
      repeat' first | (refine fun (b : Bool) hb=>?_; cases b <;> (first | exact absurd hb (by decide) | exact Bool.noConfusion (show true = false from hb) | exact Bool.noConfusion (show false = true from hb) | skip)) | refine And.intro (a:=I64 _) ?_ ?_ | fail
      · (first | omega | (unfold I64; omega) | (simp only [List.length_append,List.length_map,List.length_cons,List.length_nil,Nat.mul_one,Int.ofNat_eq_natCast] at *; omega) | (dsimp only at *; omega) | (unfold I64; dsimp only at *; omega) | (unfold I64; grind) | grind)
      · refine ⟨i + 1,(by (refine wk_auto ?_; refine Sel4.mk rfl rfl ?_ ?_ <;> (repeat' (first | exact True.intro | exact rfl | exact Or.inl rfl | exact Or.inr rfl | refine And.intro ?_ ?_ | fail)))),⟨by omega,?_⟩,by omega⟩
        rw [← hJ,hb0,if_pos (by grind)]
      · refine hK _ ?_
        have he : ¬ e = 0:=by grind
        rw [← hJ,hb0]
        simp [he]
  · grind
  have hi2 : i < f.length:=by grind
  refine ⟨f[i],rfl,?_⟩
  have hts : f.take (i + 1) = f.take i ++ [f[i]]:=List.take_succ_eq_append_getElem hi2
  repeat' first | (refine fun (b : Bool) hb=>?_; cases b <;> (first | exact absurd hb (by decide) | exact Bool.noConfusion (show true = false from hb) | exact Bool.noConfusion (show false = true from hb) | skip)) | refine And.intro (a:=I64 _) ?_ ?_ | fail
  · (first | omega | (unfold I64; omega) | (simp only [List.length_append,List.length_map,List.length_cons,List.length_nil,Nat.mul_one,Int.ofNat_eq_natCast] at *; omega) | (dsimp only at *; omega) | (unfold I64; dsimp only at *; omega) | (unfold I64; grind) | grind)
  · refine ⟨i + 1,(by (refine wk_auto ?_; refine Sel4.mk rfl rfl ?_ ?_ <;> (repeat' (first | exact True.intro | exact rfl | exact Or.inl rfl | exact Or.inr rfl | refine And.intro ?_ ?_ | fail)))),⟨by omega,?_⟩,by omega⟩
    rw [hts,List.all_append,hI]
    grind
  · refine hK _ ?_
    have h1 : (f ++ [t]).all isWord = false:=by
      rw [List.all_eq_false]
      exact ⟨f[i],List.mem_append_left _ (List.getElem_mem hi2),by grind⟩
    rw [if_pos h1]
end Gv
namespace Gv
variable [Glob] [Laid]
theorem checkSR_ca : callable Tryz.prog 25 = true:=by kernel_rfl
def checkSR_S : Spec:=fun args K=>∃ (l : List LineS),args = [.sl lineV l] ∧ K (.int .i64 (checkS l))
noncomputable def checkSR_lib : List (Nat × Spec):=[(19,clineR_S)]
noncomputable def checkSR_fns : List (Nat × FnI):=[]
noncomputable def checkSR_prims : List (Nat × PSpec):=[]
theorem checkSR_E : EnvOK ⟨Tryz.prog,tys,checkSR_lib,checkSR_fns,checkSR_prims,[]⟩:=env_ok mixed0 tys0 (.cons clineR_ca clineR_ok .nil) .nil .nil rfl
set_option maxHeartbeats 4000000 in
theorem checkSR_ok : Pure Tryz.prog 25 checkSR_S:=by
  refine pure_by checkSR_E 6 (fi:={fn:=Tryz.f25,hooks:=[],draws:=[]}) ⟨Tryz.func25,by kernel_rfl,by kernel_rfl⟩ ?_
  rintro _ K ⟨l,rfl,hK⟩
  replace hK : ∀ r,r = .int .i64 (checkS l) → K r:=fun r h=>h ▸ hK
  unfold checkS at hK
  repeat' first | (refine fun (b : Bool) hb=>?_; cases b <;> (first | exact absurd hb (by decide) | exact Bool.noConfusion (show true = false from hb) | exact Bool.noConfusion (show false = true from hb) | skip)) | (refine fun (hl : _ ≤ MAXL)=>?_) | fail
  rotate_left
  · refine hK _ ?_
    rw [if_pos (by grind)]
  have h6 : ¬ 6 < l.length:=by grind
  rw [if_neg h6] at hK
  conv=>whnf
  refine loop_live [9,10] (σ:=Nat) (fun i=>[(11,.int .i64 i)]) (fun _=>[]) (fun i=>i ≤ l.length ∧ linesBad (l.drop i) = linesBad l) (fun i=>l.length - i) 0 ?_
  conv=>whnf
  refine ⟨(by (refine wk_auto ?_; refine Sel4.mk rfl rfl ?_ ?_ <;> (repeat' (first | exact True.intro | exact rfl | exact Or.inl rfl | exact Or.inr rfl | refine And.intro ?_ ?_ | fail)))),⟨Nat.zero_le _,rfl⟩,fun i hi=>?_⟩
  obtain ⟨hi,hI⟩:=hi
  repeat' first | (refine fun (b : Bool) hb=>?_; cases b <;> (first | exact absurd hb (by decide) | exact Bool.noConfusion (show true = false from hb) | exact Bool.noConfusion (show false = true from hb) | skip)) | refine ⟨_,rfl,?_,rfl,?_⟩ | fail
  · refine hK _ ?_
    have e : l.drop i = []:=List.drop_eq_nil_of_le (by grind)
    rw [e] at hI
    rw [← hI]
    rfl
  · grind
  have hi2 : i < l.length:=by grind
  have hd : l.drop i = l[i] :: l.drop (i + 1):=List.drop_eq_getElem_cons hi2
  rw [hd] at hI
  refine ⟨l[i],rfl,?_⟩
  have hb0 : linesBad (l[i] :: l.drop (i + 1)) = if checkLine l[i] ≠ 0 then checkLine l[i] else linesBad (l.drop (i + 1)):=rfl
  generalize checkLine l[i] = e at hb0 ⊢
  repeat' first | (refine fun (b : Bool) hb=>?_; cases b <;> (first | exact absurd hb (by decide) | exact Bool.noConfusion (show true = false from hb) | exact Bool.noConfusion (show false = true from hb) | skip)) | refine And.intro (a:=I64 _) ?_ ?_ | fail
  · (first | omega | (unfold I64; omega) | (simp only [List.length_append,List.length_map,List.length_cons,List.length_nil,Nat.mul_one,Int.ofNat_eq_natCast] at *; omega) | (dsimp only at *; omega) | (unfold I64; dsimp only at *; omega) | (unfold I64; grind) | grind)
  · refine ⟨i + 1,(by (refine wk_auto ?_; refine Sel4.mk rfl rfl ?_ ?_ <;> (repeat' (first | exact True.intro | exact rfl | exact Or.inl rfl | exact Or.inr rfl | refine And.intro ?_ ?_ | fail)))),⟨by omega,?_⟩,by omega⟩
    rw [← hI,hb0,if_neg (by grind)]
  · refine hK _ ?_
    have he : e ≠ 0:=by grind
    rw [← hI,hb0,if_pos he]
end Gv
namespace Gv
variable [Glob] [Laid] [Spaces]
theorem fieldsS_ca : callable Tryz.prog 114 = true:=by kernel_rfl
def fieldsS_S : Spec:=fun args K=>args = [.str verbsB] ∧ K (.sl strV verbsL)
set_option maxHeartbeats 4000000 in
theorem fieldsS_ok : Pure Tryz.prog 114 fieldsS_S:=by
  intro w m args us K hm hg hv hT
  obtain ⟨rfl,hK⟩:=hT
  obtain ⟨a,rfl,ha⟩:=args1 hv.1 hv.2
  obtain ⟨rfl,-⟩:=vr_str ha
  have hgw : Sub Glob.mem w:=fun b o e=>hm b o (hg b o e)
  refine (Tryz.strings_Fields (ba verbsB) w (by decide) (fun j b h=>verbs_ascii j b h) (Spaces.tab w hgw)).mono fun e w' ⟨he,hw⟩=>?_
  subst hw
  rw [show (ba verbsB).data.toList = verbsB from rfl,fields_verbs] at *
  refine ⟨_,_,he,Bel.alloc [] w _,hK,strs_new (Gw.heap_alloc_new w _) (by decide) fun x hx=>?_⟩
  have hb : ∀ s ∈ verbsL,s.length ≤ MAXL:=by decide
  exact hb x hx
end Gv
namespace Gv
variable [Glob] [Laid] [Spaces] [Nums]
theorem textC_ways {c : Cmd} (h : checkCmd c = 0) : (c.word ≠ [] → textC c = verb c.kind ++ ([32] ++ c.word)) ∧ (c.word = [] → c.n = 0 → textC c = verb c.kind) ∧ (c.word = [] → c.n ≠ 0 → 0 < c.n ∧ textC c = verb c.kind ++ ([32] ++ Lib.itoa c.n)):=by
  rcases cmd_cases h with ⟨k,h1,h2,w,hw,rfl⟩ | ⟨k,h1,n,h2,h3,rfl⟩ | ⟨k,h1,h2,rfl⟩
  · refine ⟨fun h=>?_,fun h=>absurd h (word_of hw).1,fun h=>absurd h (word_of hw).1⟩
    rw [textC_word k h,verb_nat]; rfl
  · refine ⟨fun h=>absurd rfl h,fun _ h=>by dsimp only at h; omega,fun _ _=>⟨by dsimp only; omega,?_⟩⟩
    rw [textC_n k h2,verb_nat]; rfl
  · refine ⟨fun h=>absurd rfl h,fun _ _=>?_,fun _ h=>absurd rfl h⟩
    rw [textC_0,verb_nat]
theorem textSR_ca : callable Tryz.prog 44 = true:=by kernel_rfl
def textSR_S : Spec:=fun args K=>∃ (l : List LineS),args = [.sl lineV l] ∧ checkS l = 0 ∧ K (.str (l.map printL).flatten)
noncomputable def textSR_lib : List (Nat × Spec):=[(103,joinS_S),(114,fieldsS_S),(107,itoa_S)]
noncomputable def textSR_fns : List (Nat × FnI):=[]
noncomputable def textSR_prims : List (Nat × PSpec):=[]
theorem textSR_E : EnvOK ⟨Tryz.prog,tys,textSR_lib,textSR_fns,textSR_prims,[]⟩:=env_ok mixed0 tys0 (.cons joinS_ca joinS_ok (.cons fieldsS_ca fieldsS_ok (.cons itoa_ca itoa_ok .nil))) .nil .nil rfl
set_option maxHeartbeats 16000000 in
theorem textSR_ok : Pure Tryz.prog 44 textSR_S:=by
  refine pure_by textSR_E 6 (fi:={fn:=Tryz.f44,hooks:=[14,16],draws:=[(9,[0,0,2,7,15,31]),(16,[0,0,2,6,0,16,62,126,255,511])]}) ⟨Tryz.func44,by kernel_rfl,by kernel_rfl⟩ ?_
  rintro _ K ⟨l,rfl,hc,hK⟩
  replace hK : ∀ r,r = .str (l.map printL).flatten → K r:=fun r h=>h ▸ hK
  obtain ⟨hl6,hlc⟩:=checkS_of hc
  repeat' first | (refine fun (hl : _ ≤ MAXL)=>?_) | fail
  conv=>whnf
  refine loop_live [10,11] (σ:=Nat × Bs) (fun s=>[(12,.int .i64 s.1),(3,.str s.2)]) (fun s=>[]) (fun s=>s.1 ≤ l.length ∧ s.2 = ((l.take s.1).map printL).flatten ∧ s.2.length ≤ s.1 * 1000) (fun s=>l.length - s.1) (0,[]) ?_
  conv=>whnf
  refine ⟨(by (refine wk_auto ?_; refine Sel4.mk rfl rfl ?_ ?_ <;> (repeat' (first | exact True.intro | exact rfl | exact Or.inl rfl | exact Or.inr rfl | refine And.intro ?_ ?_ | fail)))),⟨Nat.zero_le _,rfl,Nat.zero_le _⟩,fun s hs=>?_⟩
  obtain ⟨i,d⟩:=s
  obtain ⟨hi,hd,hdl⟩:=hs
  dsimp only at hi hd hdl
  repeat' first | (refine fun (b : Bool) hb=>?_; cases b <;> (first | exact absurd hb (by decide) | exact Bool.noConfusion (show true = false from hb) | exact Bool.noConfusion (show false = true from hb) | skip)) | refine ⟨_,rfl,?_,rfl,?_⟩ | fail
  · have hil : i = l.length:=by grind
    subst hil
    rw [List.take_length] at hd
    conv=>whnf
    skip
    exact hK _ (by rw [hd])
  · grind
  have hi2 : i < l.length:=by grind
  have hxc:=hlc l[i] (List.getElem_mem hi2)
  obtain ⟨f1,f2,f3,f4,f5,f6,f7⟩:=line_facts hxc
  have hxp:=printL_le hxc
  conv=>whnf
  skip
  refine ⟨l[i].frm,[32],rfl,⟨by omega,by omega⟩,?_⟩
  skip
  conv=>whnf
  refine join_live [3,5,10,11,12] (σ:=Unit) (fun _=>[(6,.sl strV (Lib.join l[i].frm [32] :: l[i].cmds.map textC))]) (fun _=>[.box [.sl strV l[i].frm,.sl cmdV l[i].cmds,.str l[i].to]]) (fun _=>True) ?_
  conv=>whnf
  refine ⟨?_,fun _ _=>?_⟩
  · conv=>whnf
    repeat' first | (refine fun (hl : _ ≤ MAXL)=>?_) | fail
    conv=>whnf
    refine loop_live [3,5,10,11,12,21,22] (σ:=Nat) (fun j=>[(23,.int .i64 j),(6,.own 1)]) (fun j=>[.box [.sl strV l[i].frm,.sl cmdV l[i].cmds,.str l[i].to],.row 1 ((Lib.join l[i].frm [32] :: (l[i].cmds.take j).map textC).map strV)]) (fun j=>j ≤ l[i].cmds.length) (fun j=>l[i].cmds.length - j) 0 ?_
    conv=>whnf
    refine ⟨(by (refine wk_sel [some 0,some 1] rfl rfl ?_ ?_ <;> (repeat' (first | exact True.intro | exact rfl | exact Or.inl rfl | exact Or.inr rfl | refine And.intro ?_ ?_ | fail)))),Nat.zero_le _,fun j hj=>?_⟩
    repeat' first | (refine fun (b : Bool) hb=>?_; cases b <;> (first | exact absurd hb (by decide) | exact Bool.noConfusion (show true = false from hb) | exact Bool.noConfusion (show false = true from hb) | skip)) | refine ⟨_,rfl,?_,rfl,?_⟩ | fail
    · have hjl : j = l[i].cmds.length := by
        have h:=of_decide_eq_false (by assumption : decide ((j : Int) < (l[i].cmds.length : Int)) = false)
        omega
      subst hjl
      refine ⟨(),?_,trivial⟩
      rw [List.take_length]
      exact (wk_fz 1 rfl (LeL.refl _)).trans (by (refine wk_sel [some 0] rfl rfl ?_ ?_ <;> (repeat' (first | exact True.intro | exact rfl | exact Or.inl rfl | exact Or.inr rfl | refine And.intro ?_ ?_ | fail))))
    · have h:=of_decide_eq_true (by assumption : decide ((j : Int) < (l[i].cmds.length : Int)) = true)
      show j < l[i].cmds.length
      omega
    have hj2 : j < l[i].cmds.length:=by
      have h:=of_decide_eq_true (by assumption : decide ((j : Int) < (l[i].cmds.length : Int)) = true)
      omega
    have hcc:=f7 l[i].cmds[j] (List.getElem_mem hj2)
    obtain ⟨k,k1,k2,k3⟩:=verbs_at hcc
    obtain ⟨k',-,-,-,k4,k5,k6⟩:=cmd_print hcc
    conv=>whnf
    skip
    apply Exists.intro
    apply And.intro
    · exact ⟨rfl,rfl,rfl⟩
    conv=>whnf
    apply Exists.intro
    apply And.intro
    · repeat' first | refine ⟨rfl,?_⟩ | fail
      exact rfl
    conv=>whnf
    apply Exists.intro
    apply And.intro
    · repeat' first | refine ⟨rfl,?_⟩ | fail
      exact rfl
    conv=>whnf
    refine ⟨trivial,?_⟩
    conv=>whnf
    apply Exists.intro
    apply And.intro
    · refine ⟨k,k1,k2,?_⟩
      conv=>whnf
      exact ⟨rfl,rfl,rfl⟩
    have hv : verbsL[k] = verb l[i].cmds[j].kind:=by
      have:=List.getElem?_eq_getElem (l:=verbsL) (i:=k) k2
      rw [k3] at this
      exact (Option.some.inj this).symm
    conv=>whnf
    apply Exists.intro
    apply And.intro
    · repeat' first | refine ⟨rfl,?_⟩ | fail
      exact rfl
    conv=>whnf
    repeat' first | refine ⟨_,⟨rfl,rfl⟩,?_⟩ | fail
    conv=>whnf
    refine join_live [3,5,6,10,11,12,21,22,23] (σ:=Bs) (fun t=>[(9,.str t)]) (fun _=>[.box [.sl strV l[i].frm,.sl cmdV l[i].cmds,.str l[i].to],.row 1 ((Lib.join l[i].frm [32] :: (l[i].cmds.take j).map textC).map strV)]) (fun t=>t = textC l[i].cmds[j]) ?_
    conv=>whnf
    refine ⟨?_,fun t ht=>?_⟩
    · obtain ⟨w1,w2,w3⟩:=textC_ways hcc
      rw [← hv] at k4 w1 w2 w3
      conv=>whnf
      repeat' first | (refine fun (b : Bool) hb=>?_; cases b <;> (first | exact absurd hb (by decide) | exact Bool.noConfusion (show true = false from hb) | exact Bool.noConfusion (show false = true from hb) | skip)) | fail
      · have hw : l[i].cmds[j].word = []:=by simpa using ‹(!decide (l[i].cmds[j].word = ({ data:=#[] } : ByteArray).data.toList)) = false›
        have hn : l[i].cmds[j].n = 0:=by simpa using ‹(!decide (l[i].cmds[j].n = 0)) = false›
        conv=>whnf
        exact ⟨verbsL[k],(by (refine wk_sel [some 0,some 1] rfl rfl ?_ ?_ <;> (repeat' (first | exact True.intro | exact rfl | exact Or.inl rfl | exact Or.inr rfl | refine And.intro ?_ ?_ | fail)))),(w2 hw hn).symm⟩
      · have hw : l[i].cmds[j].word = []:=by simpa using ‹(!decide (l[i].cmds[j].word = ({ data:=#[] } : ByteArray).data.toList)) = false›
        have hn : ¬ l[i].cmds[j].n = 0:=by simpa using ‹(!decide (l[i].cmds[j].n = 0)) = true›
        obtain ⟨hp,ht⟩:=w3 hw hn
        have hI:=itoa_le hp k6
        conv=>whnf
        skip
        refine ⟨l[i].cmds[j].n,rfl,by unfold I64; omega,?_⟩
        skip
        refine ⟨?_,?_⟩
        · simp only [List.length_append,List.length_cons,List.length_nil,MAXL]; omega
        skip
        refine ⟨?_,?_⟩
        · simp only [List.length_append,List.length_cons,List.length_nil,MAXL]; omega
        skip
        exact ⟨verbsL[k] ++ ([32] ++ Lib.itoa l[i].cmds[j].n),(by (refine wk_sel [some 0,some 1] rfl rfl ?_ ?_ <;> (repeat' (first | exact True.intro | exact rfl | exact Or.inl rfl | exact Or.inr rfl | refine And.intro ?_ ?_ | fail)))),ht.symm⟩
      · have hw : ¬ l[i].cmds[j].word = []:=by simpa using ‹(!decide (l[i].cmds[j].word = ({ data:=#[] } : ByteArray).data.toList)) = true›
        conv=>whnf
        skip
        refine ⟨?_,?_⟩
        · simp only [List.length_append,List.length_cons,List.length_nil,MAXL]; omega
        skip
        refine ⟨?_,?_⟩
        · simp only [List.length_append,List.length_cons,List.length_nil,MAXL]; omega
        skip
        exact ⟨verbsL[k] ++ ([32] ++ l[i].cmds[j].word),(by (refine wk_sel [some 0,some 1] rfl rfl ?_ ?_ <;> (repeat' (first | exact True.intro | exact rfl | exact Or.inl rfl | exact Or.inr rfl | refine And.intro ?_ ?_ | fail)))),(w1 hw).symm⟩
    subst ht
    conv=>whnf
    repeat' first | refine And.intro (a:=I64 _) ?_ ?_ | refine And.intro (a:=_ ≤ 140737488355328) ?_ ?_ | refine ⟨rfl,?_⟩ | fail
    · refine Nat.le_trans (Nat.mul_le_mul_right _ (show _ ≤ 8 from ?_)) (by decide)
      simp only [List.length_map,List.length_cons,List.length_nil,List.length_take]
      omega
    · show I64 ((j : Int) + 1)
      unfold I64; omega
    refine ⟨j + 1,?_,by omega,by omega⟩
    show Wk _ _ _ _ [.box [.sl strV l[i].frm,.sl cmdV l[i].cmds,.str l[i].to],.row 1 ((Lib.join l[i].frm [32] :: (l[i].cmds.take (j + 1)).map textC).map strV)]
    rw [List.take_succ_eq_append_getElem hj2,List.map_append,← List.cons_append,List.map_append]
    exact (by (refine wk_sel [some 0,some 3] rfl rfl ?_ ?_ <;> (repeat' (first | exact True.intro | exact rfl | exact Or.inl rfl | exact Or.inr rfl | refine And.intro ?_ ?_ | fail))))
  conv=>whnf
  conv=>whnf
  repeat' first | refine ⟨_,⟨rfl,rfl⟩,?_⟩ | fail
  apply Exists.intro
  apply And.intro
  · refine ⟨_,barB,rfl,⟨?_,?_⟩,?_⟩
    · simp; omega
    · rw [body_join]
      have:=textCs_le f7
      rw [List.length_append]; omega
    exact ⟨rfl,rfl⟩
  have hbj:=body_join (Lib.join l[i].frm [32]) l[i].cmds
  conv=>whnf
  skip
  conv=>whnf
  apply Exists.intro
  apply And.intro
  · refine ⟨?_,rfl,rfl⟩
    have:=textCs_le f7
    rw [hbj]
    simp only [List.length_append,List.length_cons,List.length_nil,MAXL]; omega
  conv=>whnf
  apply Exists.intro
  apply And.intro
  · repeat' first | refine ⟨rfl,?_⟩ | fail
    exact rfl
  conv=>whnf
  apply Exists.intro
  apply And.intro
  · repeat' first | refine ⟨rfl,?_⟩ | fail
    exact rfl
  conv=>whnf
  refine ⟨trivial,?_⟩
  conv=>whnf
  apply Exists.intro
  apply And.intro
  · refine ⟨?_,rfl,rfl⟩
    have:=textCs_le f7
    rw [hbj]
    simp only [List.length_append,List.length_cons,List.length_nil,MAXL]; omega
  conv=>whnf
  apply Exists.intro
  apply And.intro
  · refine ⟨?_,rfl,rfl⟩
    have:=textCs_le f7
    rw [hbj]
    simp only [List.length_append,List.length_cons,List.length_nil,MAXL]; omega
  conv=>whnf
  apply Exists.intro
  apply And.intro
  · refine ⟨?_,rfl,rfl⟩
    have:=textCs_le f7
    rw [hbj]
    simp only [List.length_append,List.length_cons,List.length_nil,MAXL]; omega
  conv=>whnf
  repeat' first | refine And.intro (a:=I64 _) ?_ ?_ | refine ⟨_,⟨rfl,rfl⟩,?_⟩ | fail
  · show I64 ((i : Int) + 1)
    unfold I64; omega
  have hpr : printL l[i] = Lib.join (Lib.join l[i].frm [32] :: l[i].cmds.map textC) barB ++ [32,62,32] ++ l[i].to ++ [10]:=by
    rw [hbj]
    unfold printL textL toB
    simp
  refine ⟨(i + 1,d ++ printL l[i]),?_,⟨by omega,?_,?_⟩,by omega⟩
  · rw [hpr]
    exact (by (refine wk_sel [] rfl rfl ?_ ?_ <;> (repeat' (first | exact True.intro | exact rfl | exact Or.inl rfl | exact Or.inr rfl | refine And.intro ?_ ?_ | fail))))
  · show d ++ printL l[i] = ((l.take (i + 1)).map printL).flatten
    rw [flat_take l i hi2,hd]
  · show (d ++ printL l[i]).length ≤ (i + 1) * 1000
    rw [List.length_append]; omega
end Gv
namespace Gv
variable [Glob] [Laid]
theorem indexS_ca : callable Tryz.prog 115 = true:=by kernel_rfl
def indexS_S : Spec:=fun args K=>∃ (s sub : Bs),args = [.str s,.str sub] ∧ s.length < 4294967281 ∧ K (.int .i64 (Lib.index s sub))
set_option maxHeartbeats 4000000 in
theorem indexS_ok : Pure Tryz.prog 115 indexS_S:=by
  intro w m args us K hm hg hv hT
  obtain ⟨s,sub,rfl,h1,hK⟩:=hT
  obtain ⟨a,b,rfl,ha,hb⟩:=args2 hv.1 hv.2
  obtain ⟨rfl,-⟩:=vr_str ha
  obtain ⟨rfl,-⟩:=vr_str hb
  obtain ⟨n,hn⟩:=Laid.maxlen w (fun b o e=>hm b o (hg b o e))
  refine (Tryz.strings_Index (ba s) (ba sub) n w (by rw [ba_size]; exact h1) hn).mono fun e w' ⟨he,hw⟩=>?_
  subst hw
  exact ⟨_,_,he,Bel.refl _ _,hK,.int⟩
end Gv
namespace Gv
variable [Glob] [Laid] [Errs]
theorem parseIS_ca : callable Tryz.prog 117 = true:=by kernel_rfl
def parseIS_S : Spec:=fun args K=>∃ (s : Bs),args = [.str s,.int .i64 10,.int .i64 64] ∧ s.length ≤ 140737488355328 ∧ (∀ k,Lib.atoiAll s = .ok k → K (.tup [.int .i64 k,.raw .nilIface])) ∧ ∀ n T b,(∀ k,Lib.atoiAll s ≠ .ok k) → K (.tup [.int .i64 n,.raw (.iface T (.pointer (some ⟨b,0,none⟩)))])
set_option maxHeartbeats 4000000 in
theorem parseIS_ok : Pure Tryz.prog 117 parseIS_S:=by
  intro w m args us K hm hg hv hT
  obtain ⟨s,rfl,h1,hok,herr⟩:=hT
  obtain ⟨a,b,c,rfl,ha,hb,hc⟩:=args3 hv.1 hv.2
  cases hb; cases hc
  obtain ⟨rfl,-⟩:=vr_str ha
  have hgw : Sub Glob.mem w:=fun b o e=>hm b o (hg b o e)
  have two : ∀ {m : Mem} {n : Int} {u : Value},VR m noLoc (.tup [.int .i64 n,.raw u]) (.tuple #[.int .i64 n,u]):=fun {m n u}=>by
    have h : VRL m noLoc [.int .i64 n,.raw u] [.int .i64 n,u]:=VRL.cons .int (VRL.cons .raw VRL.nil)
    exact .tup h.len h.el
  have hp : Lib.parseIntB 64 s = Lib.atoiAll s:=Lib.parseIntB_64 s
  rw [← hp] at hok herr
  cases h : Lib.parseIntB 64 s with
  | ok v =>
    refine (Tryz.strconv_ParseInt_10_at64_ok (ba s) (by rw [ba_size]; omega) v h w).mono fun e w' ⟨he,hw⟩=>?_
    refine ⟨_,_,he,Bel.of_below ?_,hok v h,two⟩
    rcases hw with rfl | ⟨t,rfl⟩
    · exact RowKit.Below.refl _ _
    · exact Lib.bytesWorld_below _ _ _
  | range =>
    obtain ⟨tp,pv,e1⟩:=Errs.rng w hgw
    refine (Tryz.strconv_ParseInt_10_at64_range_var (ba s) (by rw [ba_size]; omega) h tp pv w e1).mono fun e w' ⟨N,he,_,_,hw⟩=>?_
    exact ⟨_,_,he,Bel.of_below hw,herr _ _ _ (fun k=>by rw [h]; intro x; cases x),two⟩
  | _ =>
    obtain ⟨tp,pv,e1⟩:=Errs.syn w hgw
    refine (Tryz.strconv_ParseInt_10_at64_syntax_var (ba s) (by rw [ba_size]; omega) h tp pv w e1).mono fun e w' ⟨N,he,_,_,hw⟩=>?_
    exact ⟨_,_,he,Bel.of_below hw,herr _ _ _ (fun k=>by rw [h]; intro x; cases x),two⟩
end Gv
namespace Gv
variable [Glob] [Laid] [Nums]
theorem fmtI_ca : callable Tryz.prog 118 = true:=by kernel_rfl
def fmtI_S : Spec:=fun args K=>∃ (n : Int),args = [.int .i64 n,.int .i64 10] ∧ I64 n ∧ K (.str (Lib.itoa n))
set_option maxHeartbeats 4000000 in
theorem fmtI_ok : Pure Tryz.prog 118 fmtI_S:=by
  intro w m args us K hm hg hv hT
  obtain ⟨n,rfl,h1,hK⟩:=hT
  obtain ⟨a,b,rfl,ha,hb⟩:=args2 hv.1 hv.2
  cases ha
  cases hb
  refine (Tryz.strconv_FormatInt_10 n h1.1 h1.2 w (Nums.pow10 w (fun b o e=>hm b o (hg b o e)))).mono fun e w' ⟨he,k,os,hw⟩=>?_
  subst hw
  have:=itoa_len n h1
  exact ⟨_,_,he,bel_more w k os,hK,.str (by unfold MAXL; omega)⟩
end Gv
namespace Gv
variable [Glob] [Laid] [Spaces] [Errs] [Nums]
theorem readR_ca : callable Tryz.prog 45 = true:=by kernel_rfl
def readR_S : Spec:=fun args K=>∃ (s0 : Bs),args = [.str s0] ∧ s0.length ≤ 8000 ∧ K (.tup [.sl lineV (parseS s0).1,.int .i64 (parseS s0).2.1,.int .i64 (parseS s0).2.2])
noncomputable def readR_lib : List (Nat × Spec):=[(105,splitS_S),(115,indexS_S),(114,fieldsS_S),(116,idxS_S),(117,parseIS_S),(118,fmtI_S),(19,clineR_S)]
noncomputable def readR_fns : List (Nat × FnI):=[]
noncomputable def readR_prims : List (Nat × PSpec):=[]
theorem readR_E : EnvOK ⟨Tryz.prog,tys,readR_lib,readR_fns,readR_prims,[]⟩:=env_ok mixed0 tys0 (.cons splitS_ca splitS_ok (.cons indexS_ca indexS_ok (.cons fieldsS_ca fieldsS_ok (.cons idxS_ca idxS_ok (.cons parseIS_ca parseIS_ok (.cons fmtI_ca fmtI_ok (.cons clineR_ca clineR_ok .nil))))))) .nil .nil rfl
set_option maxHeartbeats 32000000 in
theorem readR_ok : Pure Tryz.prog 45 readR_S:=by
  refine pure_by readR_E 6 (fi:={fn:=Tryz.f45,hooks:=[20,29,38],draws:=[(19,[0,0,2,6,15,31,0,127]),(35,[0,1,3,7,15,7,39,103,255,511])]}) ⟨Tryz.func45,by kernel_rfl,by kernel_rfl⟩ ?_
  rintro _ K ⟨s0,rfl,hs8,hK⟩
  replace hK : ∀ r,r = .tup [.sl lineV (parseS s0).1,.int .i64 (parseS s0).2.1,.int .i64 (parseS s0).2.2] → K r:=fun r h=>h ▸ hK
  unfold parseS at hK
  rw [if_neg (by omega),read_first] at hK
  skip
  refine ⟨s0,[10],rfl,⟨by omega,by decide⟩,?_⟩
  have hne : Lib.split s0 [10] ≠ []:=splitS_ne s0 (by decide)
  have hno : ∀ x ∈ Lib.split s0 [10],(10 : UInt8) ∉ x:=split_parts_no _ s0 (Nat.le_refl _)
  have hsl : ∀ x ∈ Lib.split s0 [10],x.length ≤ s0.length:=splitS_le s0 (by decide)
  have hcnt:=split_count (sep:=[10]) (by decide) _ s0 (Nat.le_refl _)
  generalize hL : Lib.split s0 [10] = L at hK hne hno hsl hcnt ⊢
  have hL0 : 0 < L.length:=List.length_pos_iff.2 hne
  repeat' first | (refine fun (hl : _ ≤ MAXL)=>?_) | fail
  conv=>whnf
  refine loop_live [6,21,22] (σ:=Nat × List LineS) (fun s=>[(23,.int .i64 s.1),(5,.own 0)]) (fun s=>[.row 3 (s.2.map lineV)]) (fun s=>s.1 < L.length ∧ s.2.length = s.1 ∧ (∀ x ∈ s.2,checkLine x = 0) ∧ ∃ n,L.length - s.1 ≤ n ∧ parseGo n (Lib.join (L.drop s.1) [10]) s.1 s.2 = parseGo (s0.length + 1) (Lib.join (L.drop 0) [10]) 0 []) (fun s=>L.length - s.1) (0,[]) ?_
  conv=>whnf
  refine ⟨(by (refine wk_sel [none] rfl rfl ?_ ?_ <;> (repeat' (first | exact True.intro | exact rfl | exact Or.inl rfl | exact Or.inr rfl | refine And.intro ?_ ?_ | fail)))),⟨hL0,rfl,fun x hx=>by simp at hx,s0.length + 1,by omega,rfl⟩,fun s hs=>?_⟩
  obtain ⟨i,l⟩:=s
  obtain ⟨hi,hli,hlc,n,hn,hgo⟩:=hs
  dsimp only at hi hli hlc hn hgo
  obtain ⟨n,rfl⟩ : ∃ m,n = m + 1:=⟨n - 1,by omega⟩
  rw [← hgo] at hK
  repeat' first | refine ⟨_,_,_,LeL.refl _,?_⟩ | (refine fun (b : Bool) hb=>?_; cases b <;> (first | exact absurd hb (by decide) | exact Bool.noConfusion (show true = false from hb) | exact Bool.noConfusion (show false = true from hb) | skip)) | (refine fun (hl : _ ≤ MAXL)=>?_) | refine And.intro (a:=I64 _) ?_ ?_ | refine ⟨_,rfl,?_,rfl,?_⟩ | fail
  iterate 2
    · exfalso
      have h:=of_decide_eq_false (by assumption : decide ((i : Int) < (L.length : Int)) = false)
      omega
  · exact hi
  · show I64 ((L.length : Int) - 1)
    unfold I64; omega
  rotate_left
  · have h1 : i + 1 = L.length := by
      have h:=of_decide_eq_true (by assumption : decide ((i : Int) = (L.length : Int) - 1) = true)
      omega
    have h2 : L[i] = []:=by simp_all
    have h6 : ¬ 6 < l.length:=by
      have h:=of_decide_eq_false (by assumption : decide (6 < ((l.map lineV).length : Int)) = false)
      rw [List.length_map] at h; omega
    rw [read_last hno h1,if_neg (by rw [h2]; simp),checkS_many hlc,if_neg h6,if_neg (by simp)] at hK
    conv=>whnf
    exact hK _ rfl
  · have h1 : i + 1 = L.length := by
      have h:=of_decide_eq_true (by assumption : decide ((i : Int) = (L.length : Int) - 1) = true)
      omega
    have h2 : L[i] = []:=by simp_all
    have h6 : 6 < l.length:=by
      have h:=of_decide_eq_true (by assumption : decide (6 < ((l.map lineV).length : Int)) = true)
      rw [List.length_map] at h; omega
    rw [read_last hno h1,if_neg (by rw [h2]; simp),checkS_many hlc,if_pos h6,if_pos (by simp)] at hK
    conv=>whnf
    skip
    refine ⟨LineS,lineV,?_⟩
    exact hK _ rfl
  · have h1 : i + 1 = L.length := by
      have h:=of_decide_eq_true (by assumption : decide ((i : Int) = (L.length : Int) - 1) = true)
      omega
    have h2 : L[i] ≠ []:=by simp_all
    rw [read_last hno h1,if_pos h2] at hK
    conv=>whnf
    skip
    refine ⟨LineS,lineV,?_⟩
    exact hK _ rfl
  have h1 : i + 1 < L.length:=by
    have h:=of_decide_eq_false (by assumption : decide ((i : Int) = (L.length : Int) - 1) = false)
    omega
  rw [read_next hno h1] at hK
  have hgo':=hgo
  rw [read_next hno h1] at hgo'
  have htl : L[i].length ≤ 8000:=Nat.le_trans (hsl L[i] (List.getElem_mem hi)) hs8
  conv=>whnf
  skip
  rcases index_cases L[i] toB with hix | ⟨k,hix,hk⟩
  · refine ⟨L[i],toB,rfl,by omega,?_⟩
    conv=>(arg 1; rw [hix])
    conv=>whnf
    have hlp:=lineP_to (t:=L[i]) (by rw [cut_miss hix])
    rw [hlp,if_pos (by decide)] at hK
    repeat' first | (refine fun (b : Bool) hb=>?_; cases b <;> (first | exact absurd hb (by decide) | exact Bool.noConfusion (show true = false from hb) | exact Bool.noConfusion (show false = true from hb) | skip)) | fail
    refine ⟨LineS,lineV,?_⟩
    exact hK _ rfl
  refine ⟨L[i],toB,rfl,by omega,?_⟩
  conv=>(arg 1; rw [hix])
  have hct:=cut_at hix
  have hk3 : k + 3 ≤ L[i].length:=hk
  conv=>whnf
  repeat' first | (refine fun (b : Bool) hb=>?_; cases b <;> (first | exact absurd hb (by decide) | exact Bool.noConfusion (show true = false from hb) | exact Bool.noConfusion (show false = true from hb) | skip)) | refine And.intro (a:=I64 _) ?_ ?_ | fail
  · show I64 ((k : Int) + 3)
    unfold I64; omega
  refine ⟨k + 3,L[i].length,rfl,rfl,by omega,Nat.le_refl _,?_⟩
  have hto : (L[i].take L[i].length).drop (k + 3) = (Lib.cut L[i] toB).2.1:=by rw [hct,List.take_length]
  generalize (L[i].take L[i].length).drop (k + 3) = to0 at hto ⊢
  conv=>whnf
  skip
  refine ⟨0,k,rfl,rfl,Nat.zero_le _,Nat.le_trans (Nat.le_add_right k 3) hk3,?_⟩
  skip
  have hc1 : (Lib.cut L[i] toB).1 = L[i].take k:=by rw [hct]
  have htk : (L[i].take k).length ≤ 8000:=by rw [List.length_take]; omega
  generalize L[i].take k = bd at hc1 htk ⊢
  have hpl : ∃ a b,Lib.split bd barB = a :: b:=by
    cases hh : Lib.split bd barB with
    | nil=>exact absurd hh (splitS_ne _ (by decide))
    | cons a b=>exact ⟨a,b,rfl⟩
  have hpn : ∀ x ∈ Lib.split bd barB,x.length ≤ bd.length:=splitS_le _ (by decide)
  have hcn:=split_count (sep:=barB) (by decide) _ bd (Nat.le_refl _)
  obtain ⟨p0,pr,hp⟩:=hpl
  rw [hp] at hpn hcn
  simp only [List.length_cons] at hcn
  refine ⟨bd,barB,rfl,⟨by omega,by decide⟩,?_⟩
  conv=>(arg 1; rw [hp])
  conv=>whnf
  repeat' first | (refine fun (hl : _ ≤ MAXL)=>?_) | fail
  conv=>whnf
  refine loop_live [5,6,7,10,21,22,23,49,50] (σ:=Nat × List Bs × List Cmd) (fun c=>[(51,.int .i64 c.1)]) (fun c=>[.row 3 (l.map lineV),.box [.sl strV c.2.1,.own 2,.str to0],.row 3 (c.2.2.map cmdV)]) (fun c=>c.1 ≤ pr.length + 1 ∧ (0 < c.1 → c.2.1 = Lib.split p0 [32]) ∧ parseCs (pr.take (c.1 - 1)) = some c.2.2 ∧ c.2.2.length = c.1 - 1) (fun c=>pr.length + 1 - c.1) (0,[],[]) ?_
  conv=>whnf
  refine ⟨(by (refine wk_sel [some 0,some 1,none] rfl rfl ?_ ?_ <;> (repeat' (first | exact True.intro | exact rfl | exact Or.inl rfl | exact Or.inr rfl | refine And.intro ?_ ?_ | fail)))),⟨Nat.zero_le _,fun h=>absurd h (by decide),rfl,rfl⟩,fun c hc=>?_⟩
  obtain ⟨j,fr,cs⟩:=c
  obtain ⟨hj,hfr,hcs,hcl⟩:=hc
  dsimp only at hj hfr hcs hcl
  repeat' first | refine ⟨_,_,_,LeL.refl _,?_⟩ | (refine fun (b : Bool) hb=>?_; cases b <;> (first | exact absurd hb (by decide) | exact Bool.noConfusion (show true = false from hb) | exact Bool.noConfusion (show false = true from hb) | skip)) | refine ⟨_,rfl,?_,rfl,?_⟩ | fail
  · have hjl : j = pr.length + 1 := by
      have h:=of_decide_eq_false (by assumption : decide ((j : Int) < ((p0 :: pr).length : Int)) = false)
      simp only [List.length_cons] at h
      omega
    subst hjl
    have hfr:=hfr (Nat.succ_pos _)
    subst hfr
    rw [Nat.add_sub_cancel,List.take_length] at hcs
    have hlp:=lineP_some (t:=L[i]) (cs:=cs) (by rw [hct]) (by rw [hc1,hp]; exact hcs) (by rw [hc1]; exact hp)
    rw [← hto] at hlp
    rw [hlp] at hK hgo'
    dsimp only at hK hgo'
    conv=>whnf
    refine ⟨⟨Lib.split p0 [32],cs,to0⟩,rfl,?_⟩
    repeat' first | (refine fun (b : Bool) hb=>?_; cases b <;> (first | exact absurd hb (by decide) | exact Bool.noConfusion (show true = false from hb) | exact Bool.noConfusion (show false = true from hb) | skip)) | refine And.intro (a:=I64 _) ?_ ?_ | refine And.intro (a:=_ ≤ 140737488355328) ?_ ?_ | refine ⟨rfl,?_⟩ | fail
    · refine Nat.le_trans (Nat.mul_le_mul_right _ (show _ ≤ 8002 from ?_)) (by decide)
      simp only [List.length_map,List.length_cons,List.length_nil]
      omega
    · show I64 ((i : Int) + 1)
      unfold I64; omega
    · have he : checkLine ⟨Lib.split p0 [32], cs, to0⟩ = 0 := by
        first | simpa using ‹(!decide (checkLine ⟨Lib.split p0 [32],cs,to0⟩ = 0)) = false› | simp_all
      rw [if_neg (by rw [he]; decide)] at hgo'
      refine ⟨(i + 1,l ++ [⟨Lib.split p0 [32],cs,to0⟩]),?_,⟨h1,by simp only [List.length_append,List.length_cons,List.length_nil]; omega,fun x hx=>?_,n,by omega,hgo'⟩,?_⟩
      · show Wk _ _ _ _ [.row 3 ((l ++ [(⟨Lib.split p0 [32],cs,to0⟩ : LineS)]).map lineV)]
        rw [List.map_append]
        exact (by (refine wk_sel [some 4] rfl rfl ?_ ?_ <;> (repeat' (first | exact True.intro | exact rfl | exact Or.inl rfl | exact Or.inr rfl | refine And.intro ?_ ?_ | fail))))
      · rcases List.mem_append.1 hx with hx | hx
        · exact hlc x hx
        · rw [List.mem_singleton.1 hx]; exact he
      · show L.length - (i + 1) < L.length - i
        omega
    · have he : checkLine ⟨Lib.split p0 [32], cs, to0⟩ ≠ 0 := by
        first | simpa using ‹(!decide (checkLine ⟨Lib.split p0 [32],cs,to0⟩ = 0)) = true› | simp_all
      rw [if_pos he] at hK
      conv=>whnf
      skip
      refine ⟨LineS,lineV,?_⟩
      exact hK _ rfl
  · show j < (p0 :: pr).length
    have h:=of_decide_eq_true (by assumption : decide ((j : Int) < ((p0 :: pr).length : Int)) = true)
    omega
  have hj2 : j < pr.length + 1:=by
    have h:=of_decide_eq_true (by assumption : decide ((j : Int) < ((p0 :: pr).length : Int)) = true)
    simp only [List.length_cons] at h
    omega
  have hpj : (p0 :: pr)[j].length ≤ bd.length:=hpn _ (List.getElem_mem (by simpa using hj2))
  conv=>whnf
  skip
  refine ⟨(p0 :: pr)[j],[32],rfl,⟨Nat.lt_of_le_of_lt hpj (by omega),by decide⟩,?_⟩
  have hpl : ∃ a b,Lib.split (p0 :: pr)[j] [32] = a :: b:=by
    cases hh : Lib.split (p0 :: pr)[j] [32] with
    | nil=>exact absurd hh (splitS_ne _ (by decide))
    | cons a b=>exact ⟨a,b,rfl⟩
  obtain ⟨w0,wr,hw⟩:=hpl
  conv=>(arg 1; rw [hw])
  conv=>whnf
  repeat' first | (refine fun (b : Bool) hb=>?_; cases b <;> (first | exact absurd hb (by decide) | exact Bool.noConfusion (show true = false from hb) | exact Bool.noConfusion (show false = true from hb) | skip)) | refine And.intro (a:=I64 _) ?_ ?_ | fail
  rotate_left
  · show I64 ((j : Int) + 1)
    unfold I64; omega
  · have hj0 : j = 0 := by
      have h:=of_decide_eq_true (by assumption : decide ((j : Int) = 0) = true)
      omega
    subst hj0
    refine ⟨(1,Lib.split p0 [32],cs),?_,⟨by omega,fun _=>rfl,hcs,hcl⟩,?_⟩
    · show Wk _ _ _ _ [.row 3 (l.map lineV),.box [.sl strV (Lib.split p0 [32]),.own 2,.str to0],.row 3 (cs.map cmdV)]
      rw [show Lib.split p0 [32] = w0 :: wr from hw]
      exact (by (refine wk_sel [some 0,some 1,some 2] rfl rfl ?_ ?_ <;> (repeat' (first | exact True.intro | exact rfl | exact Or.inl rfl | exact Or.inr rfl | refine And.intro ?_ ?_ | fail))))
    · show pr.length + 1 - 1 < pr.length + 1 - 0
      omega
  have hj0 : j ≠ 0:=by
    have h:=of_decide_eq_false (by assumption : decide ((j : Int) = 0) = false)
    omega
  have hjr : j - 1 < pr.length:=by omega
  have hpe : (p0 :: pr)[j] = pr[j - 1]:=by
    rw [List.getElem_cons,dif_neg hj0]
  rw [hpe] at hw hpj
  have hst:=parseCs_step hjr hcs
  have hwl : ∀ x ∈ Lib.split pr[j - 1] [32],x.length ≤ pr[j - 1].length:=splitS_le _ (by decide)
  rw [hw] at hwl
  conv=>whnf
  refine join_live [5,6,7,10,13,21,22,23,49,50,51] (σ:=Int) (fun z=>[(14,.ptr 3 0 0)]) (fun z=>[.row 3 (l.map lineV),.box [.sl strV fr,.own 2,.str to0],.row 3 (cs.map cmdV),.box [.int .i64 z,.str [],.int .i64 0]]) (fun z=>z = verbAt w0) ?_
  conv=>whnf
  refine ⟨?_,fun z hz=>?_⟩
  · conv=>whnf
    apply Exists.intro
    apply And.intro
    · exact ⟨rfl,rfl,rfl⟩
    repeat' first | refine ⟨_,⟨rfl,rfl⟩,?_⟩ | refine ⟨_,⟨_,rfl,?_,rfl,rfl,rfl⟩,?_⟩ | fail
    · simp
    conv=>whnf
    apply Exists.intro
    apply And.intro
    · exact ⟨_,_,rfl,rfl,rfl⟩
    conv=>whnf
    repeat' first | exact True.intro | refine ⟨_,⟨rfl,rfl⟩,?_⟩ | refine ⟨_,_,⟨rfl,rfl⟩,?_⟩ | refine And.intro (a:=chkPend _ _ _ _ _ _) ?_ ?_ | fail
    exact ⟨_,(by (refine wk_sel [some 0,some 1,some 2,some 3] rfl rfl ?_ ?_ <;> (repeat' (first | exact True.intro | exact rfl | exact Or.inl rfl | exact Or.inr rfl | refine And.intro ?_ ?_ | fail)))),rfl⟩
  have hbad : parseC pr[j - 1] = none → ∀ r,r = .tup [.sl lineV [],.int .i64 (i : Int),.int .i64 1] → K r:=fun h r hr=>by
    rw [lineP_none (by rw [hct]) (by rw [hc1,hp]; exact hst.1 h),if_pos (by decide)] at hK
    exact hK r hr
  have hP : parseC pr[j - 1] = (if kindOf w0 = 0 then none
      else if kindOf w0 = 1 ∨ kindOf w0 = 2 ∨ kindOf w0 = 3 then (if (w0 :: wr).length ≠ 2 then none else some ⟨(kindOf w0 : Int),(w0 :: wr).getD 1 [],0⟩)
      else if kindOf w0 = 4 ∨ kindOf w0 = 9 ∨ kindOf w0 = 10 then (if (w0 :: wr).length ≠ 2 then none else match atoiB ((w0 :: wr).getD 1 []) with | some n=>some ⟨(kindOf w0 : Int),[],n⟩ | none=>none)
      else if (w0 :: wr).length = 1 then some ⟨(kindOf w0 : Int),[],0⟩ else none):=by
    unfold parseC
    dsimp only
    rw [hw]
    rfl
  generalize hkk : kindOf w0 = k at hP
  have hk10 : k ≤ 10:=hkk ▸ kindOf_le w0
  have hz2 : (k = 0 ∧ (z = -1 ∨ z = 0)) ∨ (k ≠ 0 ∧ z = (k : Int)):=by
    rw [hz,← hkk]; exact verbAt_cases w0
  clear hz hkk
  conv=>whnf
  refine join_live [5,6,7,10,13,14,21,22,23,49,50,51] (σ:=Int) (fun w=>[(15,.int .i64 w)]) (fun _=>[.row 3 (l.map lineV),.box [.sl strV fr,.own 2,.str to0],.row 3 (cs.map cmdV),.box [.int .i64 z,.str [],.int .i64 0]]) (fun w=>w = if z = 1 ∨ z = 2 ∨ z = 3 ∨ z = 4 ∨ z = 9 ∨ z = 10 then 2 else 1) ?_
  conv=>whnf
  refine ⟨?_,fun w hw2=>?_⟩
  · conv=>whnf
    repeat' first | (refine fun (b : Bool) hb=>?_; cases b <;> (first | exact absurd hb (by decide) | exact Bool.noConfusion (show true = false from hb) | exact Bool.noConfusion (show false = true from hb) | skip)) | fail
    all_goals (try (conv=>whnf))
    all_goals (skip)
    all_goals first
      | exact ⟨1,(by (refine wk_sel [some 0,some 1,some 2,some 3] rfl rfl ?_ ?_ <;> (repeat' (first | exact True.intro | exact rfl | exact Or.inl rfl | exact Or.inr rfl | refine And.intro ?_ ?_ | fail)))),by grind⟩
      | exact ⟨2,(by (refine wk_sel [some 0,some 1,some 2,some 3] rfl rfl ?_ ?_ <;> (repeat' (first | exact True.intro | exact rfl | exact Or.inl rfl | exact Or.inr rfl | refine And.intro ?_ ?_ | fail)))),by grind⟩
  have hlen : ((w0 :: wr).length : Int) ≠ w → parseC pr[j - 1] = none:=fun h=>by
    rw [hP]
    by_cases k0 : k = 0
    · rw [if_pos k0]
    · have hzk : z = (k : Int):=by omega
      rw [if_neg k0]
      by_cases k1 : k = 1 ∨ k = 2 ∨ k = 3
      · rw [if_pos (by omega)] at hw2
        rw [if_pos k1,if_pos (by omega)]
      · rw [if_neg k1]
        by_cases k4 : k = 4 ∨ k = 9 ∨ k = 10
        · rw [if_pos (by omega)] at hw2
          rw [if_pos k4,if_pos (by omega)]
        · rw [if_neg (by omega)] at hw2
          rw [if_neg k4,if_neg (by omega)]
  conv=>whnf
  repeat' first | (refine fun (b : Bool) hb=>?_; cases b <;> (first | exact absurd hb (by decide) | exact Bool.noConfusion (show true = false from hb) | exact Bool.noConfusion (show false = true from hb) | skip)) | (refine fun (hl : _ ≤ MAXL)=>?_) | fail
  rotate_left
  · have h:=‹(!decide (((w0 :: wr).length : Int) = w)) = true›
    have h : ((w0 :: wr).length : Int) ≠ w:=by simpa using h
    conv=>whnf
    skip
    refine ⟨LineS,lineV,?_⟩
    exact hbad (hlen h) _ rfl
  · have h:=of_decide_eq_true (by assumption : decide (z < 1) = true)
    have k0 : k = 0:=by omega
    conv=>whnf
    skip
    conv=>whnf
    skip
    refine ⟨LineS,lineV,?_⟩
    exact hbad (by rw [hP,if_pos k0]) _ rfl
  have hz1:=of_decide_eq_false (by assumption : decide (z < 1) = false)
  have hl2 : ((w0 :: wr).length : Int) = w:=by
    have h:=‹(!decide (((w0 :: wr).length : Int) = w)) = false›
    simpa using h
  have hzk : k ≠ 0 ∧ z = (k : Int):=by omega
  rw [if_neg hzk.1] at hP
  conv=>whnf
  skip
  conv=>whnf
  refine join_live [5,6,7,10,14,21,22,23,49,50,51] (σ:=Cmd) (fun _=>[]) (fun c=>[.row 3 (l.map lineV),.box [.sl strV fr,.own 2,.str to0],.row 3 (cs.map cmdV),.box [.int .i64 c.kind,.str c.word,.int .i64 c.n]]) (fun c=>parseC pr[j - 1] = some c) ?_
  conv=>whnf
  refine ⟨?_,fun c hc=>?_⟩
  · conv=>whnf
    repeat' first | (refine fun (b : Bool) hb=>?_; cases b <;> (first | exact absurd hb (by decide) | exact Bool.noConfusion (show true = false from hb) | exact Bool.noConfusion (show false = true from hb) | skip)) | refine ⟨_,rfl,?_,rfl,?_⟩ | fail
    · -- a word alone
      have hw1:=of_decide_eq_false (by assumption : decide (w = 2) = false)
      have hz3:=of_decide_eq_false (by assumption : decide (z ≤ 3) = false)
      have hc9 : ¬ (z = 1 ∨ z = 2 ∨ z = 3 ∨ z = 4 ∨ z = 9 ∨ z = 10):=fun h=>by rw [if_pos h] at hw2; exact hw1 hw2
      rw [if_neg hc9] at hw2
      conv=>whnf
      refine ⟨⟨z,[],0⟩,(by (refine wk_sel [some 0,some 1,some 2,some 3] rfl rfl ?_ ?_ <;> (repeat' (first | exact True.intro | exact rfl | exact Or.inl rfl | exact Or.inr rfl | refine And.intro ?_ ?_ | fail)))),?_⟩
      rw [hP,if_neg (by omega),if_neg (by omega),if_pos (by omega),hzk.2]
    · have hw1:=of_decide_eq_true (by assumption : decide (w = 2) = true)
      show 1 < (w0 :: wr).length
      omega
    · -- a word and a number
      have hw1:=of_decide_eq_true (by assumption : decide (w = 2) = true)
      have hz3:=of_decide_eq_false (by assumption : decide (z ≤ 3) = false)
      have hc9 : z = 4 ∨ z = 9 ∨ z = 10:=by
        rcases Decidable.em (z = 1 ∨ z = 2 ∨ z = 3 ∨ z = 4 ∨ z = 9 ∨ z = 10) with h | h
        · omega
        · rw [if_neg h] at hw2; omega
      obtain ⟨v1,rfl⟩ : ∃ v1,wr = [v1]:=by
        have : wr.length = 1:=by simp only [List.length_cons] at hl2; omega
        exact List.length_eq_one_iff.1 this
      rw [if_neg (by omega),if_pos (by omega),if_neg (by simp)] at hP
      have hv1:=hwl v1 (by simp)
      conv=>whnf
      skip
      refine ⟨v1,rfl,by omega,fun n hn=>?_,fun n T b hn=>?_⟩
      · have hat : atoiB v1 = if Lib.itoa n = v1 then some n else none:=by unfold atoiB; rw [hn]
        conv=>whnf
        repeat' first | refine ⟨_,⟨rfl,rfl⟩,?_⟩ | fail
        conv=>whnf
        skip
        apply Exists.intro
        apply And.intro
        · refine ⟨n,rfl,Lib.atoiAll_bounds hn,?_⟩
          exact ⟨rfl,rfl⟩
        conv=>whnf
        repeat' first | (refine fun (b : Bool) hb=>?_; cases b <;> (first | exact absurd hb (by decide) | exact Bool.noConfusion (show true = false from hb) | exact Bool.noConfusion (show false = true from hb) | skip)) | refine ⟨_,⟨rfl,rfl⟩,?_⟩ | refine ⟨_,⟨_,rfl,?_,rfl,rfl,rfl⟩,?_⟩ | fail
        all_goals (try (conv=>whnf))
        all_goals (skip)
        · show 1 < [w0,v1].length
          simp
        · have he : Lib.itoa n = v1:=by simpa using ‹(!decide (Lib.itoa n = v1)) = false›
          rw [if_pos he] at hat
          refine ⟨⟨z,[],n⟩,(by (refine wk_sel [some 0,some 1,some 2,some 3] rfl rfl ?_ ?_ <;> (repeat' (first | exact True.intro | exact rfl | exact Or.inl rfl | exact Or.inr rfl | refine And.intro ?_ ?_ | fail)))),?_⟩
          rw [hP]
          show (match atoiB v1 with | some n=>_ | none=>none) = _
          rw [hat,hzk.2]
        · have he : ¬ Lib.itoa n = v1:=by simpa using ‹(!decide (Lib.itoa n = v1)) = true›
          rw [if_neg he] at hat
          refine ⟨LineS,lineV,?_⟩
          refine hbad ?_ _ rfl
          rw [hP]
          show (match atoiB v1 with | some n=>_ | none=>none) = none
          rw [hat]
      · have hat : atoiB v1 = none := by
          unfold atoiB
          cases h : Lib.atoiAll v1 with
          | ok k=>exact absurd h (hn k)
          | _=>rfl
        conv=>whnf
        repeat' first | refine ⟨_,⟨rfl,rfl⟩,?_⟩ | fail
        conv=>whnf
        skip
        refine ⟨LineS,lineV,?_⟩
        refine hbad ?_ _ rfl
        rw [hP]
        show (match atoiB v1 with | some n=>_ | none=>none) = none
        rw [hat]
    · have hz3:=of_decide_eq_true (by assumption : decide (z ≤ 3) = true)
      rw [if_pos (by omega)] at hw2
      show 1 < (w0 :: wr).length
      omega
    · -- two words
      have hz3:=of_decide_eq_true (by assumption : decide (z ≤ 3) = true)
      rw [if_pos (by omega)] at hw2
      obtain ⟨v1,rfl⟩ : ∃ v1,wr = [v1]:=by
        have : wr.length = 1:=by simp only [List.length_cons] at hl2; omega
        exact List.length_eq_one_iff.1 this
      rw [if_pos (by omega),if_neg (by simp)] at hP
      conv=>whnf
      skip
      refine ⟨⟨z,v1,0⟩,(by (refine wk_sel [some 0,some 1,some 2,some 3] rfl rfl ?_ ?_ <;> (repeat' (first | exact True.intro | exact rfl | exact Or.inl rfl | exact Or.inr rfl | refine And.intro ?_ ?_ | fail)))),?_⟩
      rw [hP,hzk.2]
      rfl
  have hcs2:=hst.2 c hc
  rw [show j - 1 + 1 = j by omega] at hcs2
  conv=>whnf
  repeat' first | refine And.intro (a:=I64 _) ?_ ?_ | refine And.intro (a:=_ ≤ 140737488355328) ?_ ?_ | refine ⟨rfl,?_⟩ | fail
  · show ((cs.map cmdV).length + 1) * 32 ≤ 140737488355328
    rw [List.length_map]
    omega
  · show I64 ((j : Int) + 1)
    unfold I64; omega
  refine ⟨(j + 1,fr,cs ++ [c]),?_,⟨by omega,fun _=>hfr (by omega),by rw [Nat.add_sub_cancel]; exact hcs2,by simp; omega⟩,by show pr.length + 1 - (j + 1) < pr.length + 1 - j; omega⟩
  show Wk _ _ _ _ [.row 3 (l.map lineV),.box [.sl strV fr,.own 2,.str to0],.row 3 ((cs ++ [c]).map cmdV)]
  rw [List.map_append]
  exact (by (refine wk_sel [some 0,some 1,some 5] rfl rfl ?_ ?_ <;> (repeat' (first | exact True.intro | exact rfl | exact Or.inl rfl | exact Or.inr rfl | refine And.intro ?_ ?_ | fail))))
end Gv
namespace Gv
variable [Glob] [Laid]
theorem equalS_ca : callable Tryz.prog 121 = true:=by kernel_rfl
def equalS_S : Spec:=fun args K=>∃ a b : List Bs,args = [.sl strV a,.sl strV b] ∧ K (.bool (decide (a = b)))
noncomputable def equalS_lib : List (Nat × Spec):=[]
noncomputable def equalS_fns : List (Nat × FnI):=[]
noncomputable def equalS_prims : List (Nat × PSpec):=[]
theorem equalS_E : EnvOK ⟨Tryz.prog,tys,equalS_lib,equalS_fns,equalS_prims,[]⟩:=env_ok mixed0 tys0 .nil .nil .nil rfl
set_option maxHeartbeats 4000000 in
theorem equalS_ok : Pure Tryz.prog 121 equalS_S:=by
  refine pure_by equalS_E 6 (fi:={fn:=Tryz.f121,hooks:=[],draws:=[(6,[0,0,3,7,0,0,48,112,255])]}) ⟨Tryz.func121,by kernel_rfl,by kernel_rfl⟩ ?_
  rintro _ K ⟨x,y,rfl,hK⟩
  replace hK : ∀ r,r = .bool (decide (x = y)) → K r:=fun r h=>h ▸ hK
  repeat' first | (refine fun (b : Bool) hb=>?_; cases b <;> (first | exact absurd hb (by decide) | exact Bool.noConfusion (show true = false from hb) | exact Bool.noConfusion (show false = true from hb) | skip)) | (refine fun (hl : _ ≤ MAXL)=>?_) | fail
  rotate_left
  · refine hK _ ?_
    congr 1
    grind
  conv=>whnf
  have hlen : x.length = y.length:=by grind
  refine loop_live [0,1,12] (σ:=Nat) (fun i=>[(13,.int .i64 i)]) (fun _=>[]) (fun i=>i ≤ x.length ∧ x.take i = y.take i) (fun i=>x.length - i) 0 ?_
  conv=>whnf
  refine ⟨(by (refine wk_sel [] rfl rfl ?_ ?_ <;> (repeat' (first | exact True.intro | exact rfl | exact Or.inl rfl | exact Or.inr rfl | refine And.intro ?_ ?_ | fail)))),⟨Nat.zero_le _,rfl⟩,fun i hi=>?_⟩
  obtain ⟨hi,hI⟩:=hi
  repeat' first | (refine fun (b : Bool) hb=>?_; cases b <;> (first | exact absurd hb (by decide) | exact Bool.noConfusion (show true = false from hb) | exact Bool.noConfusion (show false = true from hb) | skip)) | refine And.intro (a:=I64 _) ?_ ?_ | refine ⟨_,⟨rfl,rfl⟩,?_⟩ | refine ⟨_,⟨_,rfl,?_,rfl,rfl,rfl⟩,?_⟩ | fail
  · refine hK _ ?_
    congr 1
    have e : x = y:=by
      have h1 : x.take i = x:=List.take_of_length_le (by grind)
      have h2 : y.take i = y:=List.take_of_length_le (by grind)
      rw [← h1,← h2,hI]
    simp [e]
  · grind
  · grind
  · (first | omega | (unfold I64; omega) | (simp only [List.length_append,List.length_map,List.length_cons,List.length_nil,Nat.mul_one,Int.ofNat_eq_natCast] at *; omega) | (dsimp only at *; omega) | (unfold I64; dsimp only at *; omega) | (unfold I64; grind) | grind)
  · have g1 : i < x.length:=by grind
    have g2 : i < y.length:=by grind
    refine ⟨i + 1,(by (refine wk_sel [] rfl rfl ?_ ?_ <;> (repeat' (first | exact True.intro | exact rfl | exact Or.inl rfl | exact Or.inr rfl | refine And.intro ?_ ?_ | fail)))),⟨by omega,?_⟩,by omega⟩
    rw [List.take_succ_eq_append_getElem g1,List.take_succ_eq_append_getElem g2,hI]
    have e : x[i] = y[i]:=by grind
    rw [e]
  · refine hK _ ?_
    congr 1
    grind
end Gv
namespace Gv
variable [Glob] [Laid]
theorem equalC_ca : callable Tryz.prog 122 = true:=by kernel_rfl
def equalC_S : Spec:=fun args K=>∃ a b : List Cmd,args = [.sl cmdV a,.sl cmdV b] ∧ K (.bool (decide (a = b)))
noncomputable def equalC_lib : List (Nat × Spec):=[]
noncomputable def equalC_fns : List (Nat × FnI):=[]
noncomputable def equalC_prims : List (Nat × PSpec):=[]
theorem equalC_E : EnvOK ⟨Tryz.prog,tys,equalC_lib,equalC_fns,equalC_prims,[(48,[true,false,true])]⟩:=env_ok mixed0 tys0 .nil .nil .nil (by kernel_rfl)
set_option maxHeartbeats 4000000 in
theorem equalC_ok : Pure Tryz.prog 122 equalC_S:=by
  refine pure_by equalC_E 6 (fi:={fn:=Tryz.f122,hooks:=[],draws:=[(6,[0,0,3,7,0,0,48,112,255])]}) ⟨Tryz.func122,by kernel_rfl,by kernel_rfl⟩ ?_
  rintro _ K ⟨x,y,rfl,hK⟩
  replace hK : ∀ r,r = .bool (decide (x = y)) → K r:=fun r h=>h ▸ hK
  repeat' first | (refine fun (b : Bool) hb=>?_; cases b <;> (first | exact absurd hb (by decide) | exact Bool.noConfusion (show true = false from hb) | exact Bool.noConfusion (show false = true from hb) | skip)) | (refine fun (hl : _ ≤ MAXL)=>?_) | fail
  rotate_left
  · refine hK _ ?_
    congr 1
    grind
  conv=>whnf
  refine loop_live [0,1,12] (σ:=Nat) (fun i=>[(13,.int .i64 i)]) (fun _=>[]) (fun i=>i ≤ x.length ∧ x.take i = y.take i) (fun i=>x.length - i) 0 ?_
  conv=>whnf
  refine ⟨wk_sel [] rfl rfl trivial (by (repeat' (first | exact True.intro | exact rfl | exact Or.inl rfl | exact Or.inr rfl | refine And.intro ?_ ?_ | fail))),⟨Nat.zero_le _,rfl⟩,?_⟩
  intro i ⟨hi,hI⟩
  repeat' first | (refine fun (b : Bool) hb=>?_; cases b <;> (first | exact absurd hb (by decide) | exact Bool.noConfusion (show true = false from hb) | exact Bool.noConfusion (show false = true from hb) | skip)) | refine And.intro (a:=I64 _) ?_ ?_ | refine ⟨_,⟨rfl,rfl⟩,?_⟩ | refine ⟨_,⟨_,rfl,?_,rfl,rfl,rfl⟩,?_⟩ | fail
  all_goals try ((first | omega | (unfold I64; omega) | (simp only [List.length_append,List.length_map,List.length_cons,List.length_nil,Nat.mul_one,Int.ofNat_eq_natCast] at *; omega) | (dsimp only at *; omega) | (unfold I64; dsimp only at *; omega) | (unfold I64; grind) | grind); done)
  · refine hK _ ?_
    congr 1
    have e : x = y:=by
      have h1 : x.take i = x:=List.take_of_length_le (by grind)
      have h2 : y.take i = y:=List.take_of_length_le (by grind)
      rw [← h1,← h2,hI]
    simp [e]
  · have g1 : i < x.length:=by grind
    have g2 : i < y.length:=by grind
    refine ⟨i + 1,?_,⟨?_,?_⟩,?_⟩
    · refine wk_sel [] rfl rfl trivial ?_
      (repeat' (first | exact True.intro | exact rfl | exact Or.inl rfl | exact Or.inr rfl | refine And.intro ?_ ?_ | fail))
    · grind
    · rw [List.take_succ_eq_append_getElem g1,List.take_succ_eq_append_getElem g2,hI]
      have e : x[i] = y[i]:=by
        have h1 : x[i].kind = y[i].kind ∧ x[i].word = y[i].word ∧ x[i].n = y[i].n:=by grind
        rcases hx : x[i] with ⟨a,b,c⟩
        rcases hy : y[i] with ⟨a',b',c'⟩
        rw [hx,hy] at h1
        simp only at h1
        rw [h1.1,h1.2.1,h1.2.2]
      rw [e]
    · grind
  · refine hK _ ?_
    congr 1
    grind
end Gv
namespace Gv
variable [Glob] [Laid]
theorem sameL1_ca : callable Tryz.prog 120 = true:=by kernel_rfl
def sameL1_S : Spec:=fun args K=>∃ a b : LineS,args = [lineV a,lineV b] ∧ K (.bool (decide (a = b)))
noncomputable def sameL1_lib : List (Nat × Spec):=[(121,equalS_S),(122,equalC_S)]
noncomputable def sameL1_fns : List (Nat × FnI):=[]
noncomputable def sameL1_prims : List (Nat × PSpec):=[]
theorem sameL1_E : EnvOK ⟨Tryz.prog,tys,sameL1_lib,sameL1_fns,sameL1_prims,[]⟩:=env_ok mixed0 tys0 (.cons equalS_ca equalS_ok (.cons equalC_ca equalC_ok .nil)) .nil .nil rfl
set_option maxHeartbeats 4000000 in
theorem sameL1_ok : Pure Tryz.prog 120 sameL1_S:=by
  refine pure_by sameL1_E 6 (fi:={fn:=Tryz.f120,hooks:=[],draws:=[]}) ⟨Tryz.func120,by kernel_rfl,by kernel_rfl⟩ ?_
  rintro _ K ⟨⟨f,c,t⟩,⟨f',c',t'⟩,rfl,hK⟩
  replace hK : ∀ r,r = .bool (decide ((⟨f,c,t⟩ : LineS) = ⟨f',c',t'⟩)) → K r:=fun r h=>h ▸ hK
  repeat' first | (refine fun (b : Bool) hb=>?_; cases b <;> (first | exact absurd hb (by decide) | exact Bool.noConfusion (show true = false from hb) | exact Bool.noConfusion (show false = true from hb) | skip)) | fail
  · conv=>whnf
    skip
    conv=>whnf
    skip
    refine hK _ ?_
    congr 1
    grind
  · conv=>whnf
    refine ⟨f,f',rfl,?_⟩
    repeat' first | (refine fun (b : Bool) hb=>?_; cases b <;> (first | exact absurd hb (by decide) | exact Bool.noConfusion (show true = false from hb) | exact Bool.noConfusion (show false = true from hb) | skip)) | fail
    · conv=>whnf
      skip
      refine hK _ ?_
      congr 1
      grind
    · conv=>whnf
      refine ⟨c,c',rfl,?_⟩
      skip
      all_goals (refine hK _ ?_; congr 1; grind)
end Gv
namespace Gv
variable [Glob] [Laid]
theorem sameS_ca : callable Tryz.prog 46 = true:=by kernel_rfl
def sameS_S : Spec:=fun args K=>∃ a b : List LineS,args = [.sl lineV a,.sl lineV b] ∧ K (.bool (decide (a = b)))
noncomputable def sameS_lib : List (Nat × Spec):=[(120,sameL1_S)]
noncomputable def sameS_fns : List (Nat × FnI):=[(119,{fn:=Tryz.f119,hooks:=[],draws:=[]})]
noncomputable def sameS_prims : List (Nat × PSpec):=[]
theorem sameS_E : EnvOK ⟨Tryz.prog,tys,sameS_lib,sameS_fns,sameS_prims,[]⟩:=env_ok mixed0 tys0 (.cons sameL1_ca sameL1_ok .nil) (.cons (by kernel_rfl) ⟨Tryz.func119,by kernel_rfl,by kernel_rfl⟩ .nil) .nil rfl
set_option maxHeartbeats 4000000 in
theorem sameS_ok : Pure Tryz.prog 46 sameS_S:=by
  refine pure_by sameS_E 6 (fi:={fn:=Tryz.f46,hooks:=[],draws:=[]}) ⟨Tryz.func46,by kernel_rfl,by kernel_rfl⟩ ?_
  rintro _ K ⟨x,y,rfl,hK⟩
  replace hK : ∀ r,r = .bool (decide (x = y)) → K r:=fun r h=>h ▸ hK
  repeat' first | (refine fun (b : Bool) hb=>?_; cases b <;> (first | exact absurd hb (by decide) | exact Bool.noConfusion (show true = false from hb) | exact Bool.noConfusion (show false = true from hb) | skip)) | (refine fun (hl : _ ≤ MAXL)=>?_) | fail
  rotate_left
  · refine hK _ ?_
    congr 1
    grind
  conv=>whnf
  refine loop_live [1,2,15,16] (σ:=Nat) (fun i=>[(17,.int .i64 i)]) (fun _=>[]) (fun i=>i ≤ x.length ∧ x.take i = y.take i) (fun i=>x.length - i) 0 ?_
  conv=>whnf
  refine ⟨(by (refine wk_auto ?_; refine Sel4.mk rfl rfl ?_ ?_ <;> (repeat' (first | exact True.intro | exact rfl | exact Or.inl rfl | exact Or.inr rfl | refine And.intro ?_ ?_ | fail)))),⟨Nat.zero_le _,rfl⟩,?_⟩
  intro i ⟨hi,hI⟩
  repeat' first | (refine fun (b : Bool) hb=>?_; cases b <;> (first | exact absurd hb (by decide) | exact Bool.noConfusion (show true = false from hb) | exact Bool.noConfusion (show false = true from hb) | skip)) | refine ⟨_,rfl,?_,rfl,?_⟩ | fail
  all_goals try ((first | omega | (unfold I64; omega) | (simp only [List.length_append,List.length_map,List.length_cons,List.length_nil,Nat.mul_one,Int.ofNat_eq_natCast] at *; omega) | (dsimp only at *; omega) | (unfold I64; dsimp only at *; omega) | (unfold I64; grind) | grind); done)
  · refine hK _ ?_
    congr 1
    have e : x = y:=by
      have h1 : x.take i = x:=List.take_of_length_le (by grind)
      have h2 : y.take i = y:=List.take_of_length_le (by grind)
      rw [← h1,← h2,hI]
    simp [e]
  have g1 : i < x.length:=by grind
  have g2 : i < y.length:=by grind
  refine ⟨x[i],y[i],rfl,?_⟩
  repeat' first | (refine fun (b : Bool) hb=>?_; cases b <;> (first | exact absurd hb (by decide) | exact Bool.noConfusion (show true = false from hb) | exact Bool.noConfusion (show false = true from hb) | skip)) | refine And.intro (a:=I64 _) ?_ ?_ | fail
  all_goals try ((first | omega | (unfold I64; omega) | (simp only [List.length_append,List.length_map,List.length_cons,List.length_nil,Nat.mul_one,Int.ofNat_eq_natCast] at *; omega) | (dsimp only at *; omega) | (unfold I64; dsimp only at *; omega) | (unfold I64; grind) | grind); done)
  · refine ⟨i + 1,?_,⟨?_,?_⟩,?_⟩
    · exact (by (refine wk_auto ?_; refine Sel4.mk rfl rfl ?_ ?_ <;> (repeat' (first | exact True.intro | exact rfl | exact Or.inl rfl | exact Or.inr rfl | refine And.intro ?_ ?_ | fail))))
    · grind
    · rw [List.take_succ_eq_append_getElem g1,List.take_succ_eq_append_getElem g2,hI]
      have e : x[i] = y[i]:=by grind
      rw [e]
    · grind
  · refine hK _ ?_
    congr 1
    have : ¬ x = y:=fun e=>by
      subst e
      simp at *
    simp [this]
end Gv
namespace Gv
variable [Glob] [Laid] [Errs] [Nums] [Spaces]
theorem printS_len {l : List LineS} (h : checkS l ≠ 0) : (printS l).1 = []:=by unfold printS; rw [if_pos h]
theorem printS_txt {l : List LineS} (h : checkS l = 0) : (printS l).1 = (l.map printL).flatten:=by unfold printS; rw [if_neg (by rw [h]; decide)]
theorem printS_err (l : List LineS) : (printS l).2 = checkS l:=by
  unfold printS
  split
  · rfl
  · rename_i h; exact (Decidable.not_not.1 h).symm
def sSays_S : Spec:=fun args K=>∃ (l : List LineS) (s : Bs) (x : LineS),args = [.sl lineV l,.str s,.agg (lineCells x)] ∧ K (.bool true)
noncomputable def sSays_lib : List (Nat × Spec):=[(41,typed_S),(39,prnS_S),(40,parse2S_S),(25,checkSR_S),(42,cline_S),(19,clineR_S),(43,scheckS_S),(44,textSR_S),(45,readR_S),(46,sameS_S)]
noncomputable def sSays_fns : List (Nat × FnI):=[]
noncomputable def sSays_prims : List (Nat × PSpec):=[]
theorem sSays_E : EnvOK ⟨Tryz.prog,tys,sSays_lib,sSays_fns,sSays_prims,[]⟩:=env_ok mixed0 tys0 (.cons typed_ca typed_ok (.cons prnS_ca prnS_ok (.cons parse2S_ca parse2S_ok (.cons checkSR_ca checkSR_ok (.cons cline_ca cline_ok (.cons clineR_ca clineR_ok (.cons scheckS_ca scheckS_ok (.cons textSR_ca textSR_ok (.cons readR_ca readR_ok (.cons sameS_ca sameS_ok .nil)))))))))) .nil .nil rfl
set_option maxHeartbeats 16000000 in
theorem sSays_ok : Pure Tryz.prog 5 sSays_S:=by
  refine pure_by sSays_E 6 (fi:={fn:=Tryz.f5,hooks:=[],draws:=[(4,[0,1,3,7,15,7,63,127,255,511,1023,2047,1023,8191,16383,32767,65535,65535,262143,524287,1048575,2097151,4194303,8388607,16777215,16777215,50331647,134217727,268435455,536870911,1073741823,2147483647,4294967295,8589934591,17179869183,34359738367,68719476735,137438953471])]}) ⟨Tryz.func5,by kernel_rfl,by kernel_rfl⟩ ?_
  rintro _ K ⟨l,s,x,rfl,hK⟩
  replace hK : ∀ r,r = .bool true → K r:=fun r h=>h ▸ hK
  have p1:=printS_len (l:=l)
  have p2:=printS_txt (l:=l)
  have p3:=printS_err l
  have hb8 : 8000 < s.length → parseS s = ([],0,2):=fun h=>by unfold parseS; rw [if_pos h]
  rcases Decidable.em (checkS l = 0) with he | he <;> rcases Decidable.em (8000 < s.length) with hs8 | hs8
  · skip
    refine ⟨l,rfl,?_⟩
    rw [p2 he,p3,he]
    skip
    refine ⟨s,rfl,?_⟩
    rw [hb8 hs8]
    skip
    refine ⟨l,rfl,?_⟩
    rw [he]
    skip
    conv=>whnf
    skip
    apply Exists.intro
    apply And.intro
    · exact ⟨rfl,rfl,rfl⟩
    conv=>whnf
    repeat' first | exact True.intro | (refine fun (b : Bool) hb=>?_; cases b <;> (first | exact absurd hb (by decide) | exact Bool.noConfusion (show true = false from hb) | exact Bool.noConfusion (show false = true from hb) | skip)) | refine ⟨_,⟨rfl,rfl⟩,?_⟩ | refine And.intro (a:=chkPast _ _ _ _ _ _ _ _) ?_ ?_ | fail
    conv=>whnf
    skip
    apply Exists.intro
    apply And.intro
    · refine ⟨x.frm,x.cmds,x.to,rfl,?_⟩
      exact ⟨rfl,rfl⟩
    conv=>whnf
    repeat' first | exact True.intro | refine ⟨_,⟨rfl,rfl⟩,?_⟩ | refine And.intro (a:=chkPast _ _ _ _ _ _ _ _) ?_ ?_ | fail
    conv=>whnf
    skip
    apply Exists.intro
    apply And.intro
    · refine ⟨x,rfl,?_⟩
      exact ⟨rfl,rfl⟩
    conv=>whnf
    repeat' first | (refine fun (b : Bool) hb=>?_; cases b <;> (first | exact absurd hb (by decide) | exact Bool.noConfusion (show true = false from hb) | exact Bool.noConfusion (show false = true from hb) | skip)) | refine ⟨_,⟨rfl,rfl⟩,?_⟩ | exact absurd (by assumption : (!decide (checkLine ⟨x.frm,x.cmds,x.to⟩ = checkLine x)) = true) (by simp) | fail
    conv=>whnf
    skip
    apply Exists.intro
    apply And.intro
    · refine ⟨l,rfl,?_⟩
      rw [he]
      exact ⟨rfl,rfl⟩
    conv=>whnf
    repeat' first | (refine fun (b : Bool) hb=>?_; cases b <;> (first | exact absurd hb (by decide) | exact Bool.noConfusion (show true = false from hb) | exact Bool.noConfusion (show false = true from hb) | skip)) | refine ⟨_,⟨rfl,rfl⟩,?_⟩ | fail
    conv=>whnf
    skip
    apply Exists.intro
    apply And.intro
    · refine ⟨l,rfl,he,?_⟩
      exact ⟨rfl,rfl⟩
    conv=>whnf
    repeat' first | (refine fun (b : Bool) hb=>?_; cases b <;> (first | exact absurd hb (by decide) | exact Bool.noConfusion (show true = false from hb) | exact Bool.noConfusion (show false = true from hb) | skip)) | (refine fun (hl : _ ≤ MAXL)=>?_) | refine ⟨_,⟨rfl,rfl⟩,?_⟩ | exact absurd (by assumption : (!decide ((l.map printL).flatten = (l.map printL).flatten)) = true) (by simp) | fail
    conv=>whnf
    skip
    all_goals (try (conv=>whnf))
    all_goals (skip)
    · exact absurd (of_decide_eq_false (by assumption : decide (8000 < (s.length : Int)) = false)) (by omega)
    all_goals exact hK _ rfl
  · skip
    refine ⟨l,rfl,?_⟩
    rw [p2 he,p3,he]
    skip
    refine ⟨s,rfl,?_⟩
    skip
    refine ⟨l,rfl,?_⟩
    rw [he]
    skip
    conv=>whnf
    skip
    apply Exists.intro
    apply And.intro
    · exact ⟨rfl,rfl,rfl⟩
    conv=>whnf
    repeat' first | exact True.intro | (refine fun (b : Bool) hb=>?_; cases b <;> (first | exact absurd hb (by decide) | exact Bool.noConfusion (show true = false from hb) | exact Bool.noConfusion (show false = true from hb) | skip)) | refine ⟨_,⟨rfl,rfl⟩,?_⟩ | refine And.intro (a:=chkPast _ _ _ _ _ _ _ _) ?_ ?_ | fail
    conv=>whnf
    skip
    apply Exists.intro
    apply And.intro
    · refine ⟨x.frm,x.cmds,x.to,rfl,?_⟩
      exact ⟨rfl,rfl⟩
    conv=>whnf
    repeat' first | exact True.intro | refine ⟨_,⟨rfl,rfl⟩,?_⟩ | refine And.intro (a:=chkPast _ _ _ _ _ _ _ _) ?_ ?_ | fail
    conv=>whnf
    skip
    apply Exists.intro
    apply And.intro
    · refine ⟨x,rfl,?_⟩
      exact ⟨rfl,rfl⟩
    conv=>whnf
    repeat' first | (refine fun (b : Bool) hb=>?_; cases b <;> (first | exact absurd hb (by decide) | exact Bool.noConfusion (show true = false from hb) | exact Bool.noConfusion (show false = true from hb) | skip)) | refine ⟨_,⟨rfl,rfl⟩,?_⟩ | exact absurd (by assumption : (!decide (checkLine ⟨x.frm,x.cmds,x.to⟩ = checkLine x)) = true) (by simp) | fail
    conv=>whnf
    skip
    apply Exists.intro
    apply And.intro
    · refine ⟨l,rfl,?_⟩
      rw [he]
      exact ⟨rfl,rfl⟩
    conv=>whnf
    repeat' first | (refine fun (b : Bool) hb=>?_; cases b <;> (first | exact absurd hb (by decide) | exact Bool.noConfusion (show true = false from hb) | exact Bool.noConfusion (show false = true from hb) | skip)) | refine ⟨_,⟨rfl,rfl⟩,?_⟩ | fail
    conv=>whnf
    skip
    apply Exists.intro
    apply And.intro
    · refine ⟨l,rfl,he,?_⟩
      exact ⟨rfl,rfl⟩
    conv=>whnf
    repeat' first | (refine fun (b : Bool) hb=>?_; cases b <;> (first | exact absurd hb (by decide) | exact Bool.noConfusion (show true = false from hb) | exact Bool.noConfusion (show false = true from hb) | skip)) | (refine fun (hl : _ ≤ MAXL)=>?_) | refine ⟨_,⟨rfl,rfl⟩,?_⟩ | exact absurd (by assumption : (!decide ((l.map printL).flatten = (l.map printL).flatten)) = true) (by simp) | exact absurd (of_decide_eq_true (by assumption : decide (8000 < (s.length : Int)) = true)) (by omega) | fail
    conv=>whnf
    skip
    refine ⟨s,rfl,by omega,?_⟩
    repeat' first | (refine fun (b : Bool) hb=>?_; cases b <;> (first | exact absurd hb (by decide) | exact Bool.noConfusion (show true = false from hb) | exact Bool.noConfusion (show false = true from hb) | skip)) | exact absurd (by assumption : decide ((parseS s).2.2 = (parseS s).2.2) = false) (by simp) | exact absurd (by assumption : decide ((parseS s).2.1 = (parseS s).2.1) = false) (by simp) | fail
    conv=>whnf
    skip
    refine ⟨(parseS s).1,(parseS s).1,rfl,?_⟩
    skip
    exact hK _ (by simp)
  · skip
    refine ⟨l,rfl,?_⟩
    rw [p1 he,p3]
    skip
    refine ⟨s,rfl,?_⟩
    rw [hb8 hs8]
    skip
    refine ⟨l,rfl,?_⟩
    skip
    conv=>whnf
    skip
    apply Exists.intro
    apply And.intro
    · exact ⟨rfl,rfl,rfl⟩
    conv=>whnf
    repeat' first | exact True.intro | (refine fun (b : Bool) hb=>?_; cases b <;> (first | exact absurd hb (by decide) | exact Bool.noConfusion (show true = false from hb) | exact Bool.noConfusion (show false = true from hb) | skip)) | refine ⟨_,⟨rfl,rfl⟩,?_⟩ | refine And.intro (a:=chkPast _ _ _ _ _ _ _ _) ?_ ?_ | fail
    conv=>whnf
    skip
    apply Exists.intro
    apply And.intro
    · refine ⟨x.frm,x.cmds,x.to,rfl,?_⟩
      exact ⟨rfl,rfl⟩
    conv=>whnf
    repeat' first | exact True.intro | refine ⟨_,⟨rfl,rfl⟩,?_⟩ | refine And.intro (a:=chkPast _ _ _ _ _ _ _ _) ?_ ?_ | fail
    conv=>whnf
    skip
    apply Exists.intro
    apply And.intro
    · refine ⟨x,rfl,?_⟩
      exact ⟨rfl,rfl⟩
    conv=>whnf
    repeat' first | (refine fun (b : Bool) hb=>?_; cases b <;> (first | exact absurd hb (by decide) | exact Bool.noConfusion (show true = false from hb) | exact Bool.noConfusion (show false = true from hb) | skip)) | refine ⟨_,⟨rfl,rfl⟩,?_⟩ | exact absurd (by assumption : (!decide (checkLine ⟨x.frm,x.cmds,x.to⟩ = checkLine x)) = true) (by simp) | fail
    conv=>whnf
    skip
    apply Exists.intro
    apply And.intro
    · refine ⟨l,rfl,?_⟩
      exact ⟨rfl,rfl⟩
    conv=>whnf
    repeat' first | (refine fun (b : Bool) hb=>?_; cases b <;> (first | exact absurd hb (by decide) | exact Bool.noConfusion (show true = false from hb) | exact Bool.noConfusion (show false = true from hb) | skip)) | (refine fun (hl : _ ≤ MAXL)=>?_) | refine ⟨_,⟨rfl,rfl⟩,?_⟩ | exact absurd (by assumption : (!decide (checkS l = checkS l)) = true) (by simp) | exact absurd (of_decide_eq_true (by assumption : decide (checkS l = 0) = true)) he | exact absurd (by assumption : (!decide (checkS l = 0)) = false) (fun h=>he (by simpa using h)) | fail
    conv=>whnf
    skip
    all_goals (try (conv=>whnf))
    all_goals (skip)
    · exact absurd (of_decide_eq_false (by assumption : decide (8000 < (s.length : Int)) = false)) (by omega)
    all_goals exact hK _ rfl
  · skip
    refine ⟨l,rfl,?_⟩
    rw [p1 he,p3]
    skip
    refine ⟨s,rfl,?_⟩
    skip
    refine ⟨l,rfl,?_⟩
    skip
    conv=>whnf
    skip
    apply Exists.intro
    apply And.intro
    · exact ⟨rfl,rfl,rfl⟩
    conv=>whnf
    repeat' first | exact True.intro | (refine fun (b : Bool) hb=>?_; cases b <;> (first | exact absurd hb (by decide) | exact Bool.noConfusion (show true = false from hb) | exact Bool.noConfusion (show false = true from hb) | skip)) | refine ⟨_,⟨rfl,rfl⟩,?_⟩ | refine And.intro (a:=chkPast _ _ _ _ _ _ _ _) ?_ ?_ | fail
    conv=>whnf
    skip
    apply Exists.intro
    apply And.intro
    · refine ⟨x.frm,x.cmds,x.to,rfl,?_⟩
      exact ⟨rfl,rfl⟩
    conv=>whnf
    repeat' first | exact True.intro | refine ⟨_,⟨rfl,rfl⟩,?_⟩ | refine And.intro (a:=chkPast _ _ _ _ _ _ _ _) ?_ ?_ | fail
    conv=>whnf
    skip
    apply Exists.intro
    apply And.intro
    · refine ⟨x,rfl,?_⟩
      exact ⟨rfl,rfl⟩
    conv=>whnf
    repeat' first | (refine fun (b : Bool) hb=>?_; cases b <;> (first | exact absurd hb (by decide) | exact Bool.noConfusion (show true = false from hb) | exact Bool.noConfusion (show false = true from hb) | skip)) | refine ⟨_,⟨rfl,rfl⟩,?_⟩ | exact absurd (by assumption : (!decide (checkLine ⟨x.frm,x.cmds,x.to⟩ = checkLine x)) = true) (by simp) | fail
    conv=>whnf
    skip
    apply Exists.intro
    apply And.intro
    · refine ⟨l,rfl,?_⟩
      exact ⟨rfl,rfl⟩
    conv=>whnf
    repeat' first | (refine fun (b : Bool) hb=>?_; cases b <;> (first | exact absurd hb (by decide) | exact Bool.noConfusion (show true = false from hb) | exact Bool.noConfusion (show false = true from hb) | skip)) | (refine fun (hl : _ ≤ MAXL)=>?_) | refine ⟨_,⟨rfl,rfl⟩,?_⟩ | exact absurd (by assumption : (!decide (checkS l = checkS l)) = true) (by simp) | exact absurd (of_decide_eq_true (by assumption : decide (checkS l = 0) = true)) he | exact absurd (by assumption : (!decide (checkS l = 0)) = false) (fun h=>he (by simpa using h)) | exact absurd (of_decide_eq_true (by assumption : decide (8000 < (s.length : Int)) = true)) (by omega) | fail
    conv=>whnf
    skip
    refine ⟨s,rfl,by omega,?_⟩
    repeat' first | (refine fun (b : Bool) hb=>?_; cases b <;> (first | exact absurd hb (by decide) | exact Bool.noConfusion (show true = false from hb) | exact Bool.noConfusion (show false = true from hb) | skip)) | exact absurd (by assumption : decide ((parseS s).2.2 = (parseS s).2.2) = false) (by simp) | exact absurd (by assumption : decide ((parseS s).2.1 = (parseS s).2.1) = false) (by simp) | fail
    conv=>whnf
    skip
    refine ⟨(parseS s).1,(parseS s).1,rfl,?_⟩
    skip
    exact hK _ (by simp)
end Gv
namespace Gv
variable [Glob] [Laid] [Errs] [Nums] [Spaces]
theorem sSaysT_ok : Pure Tryz.prog 5 sSays_S:=sSays_ok
end Gv
