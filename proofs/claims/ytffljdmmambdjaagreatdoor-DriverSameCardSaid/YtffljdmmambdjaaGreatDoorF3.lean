/- What functions of the program come to, part 3: in every world; the conditions stand in each theorem. -/
import Derived.Test.YtffljdmmambdjaaGreatDoorF2
set_option linter.unusedVariables false
set_option linter.unusedSectionVars false
set_option linter.unusedSimpArgs false
open Go Go.Proofs Gw Gp
namespace Gv
variable [Glob] [Laid]
set_option maxHeartbeats 4000000 in
set_option maxRecDepth 100000 in
theorem insF_in {m : Mem} {b vb cap vc i : Nat} {els : List V} {x : V} {arr xarr : Array Value} {T T' : TypeId} {fz fz' : Nat × Nat} {w : World} (hb : w.heap[b]? = some (.cells arr T fz)) (hv : w.heap[vb]? = some (.cells xarr T' fz')) (hne : vb ≠ b) (hz : noFk 2 arr.size fz) (hz' : noFk 2 xarr.size fz') (he : ElsR m 2 els arr) (hx : ElsR m 2 [x] xarr)
    (hi : i < els.length) (hl : els.length ≤ 1000) (hc : els.length + 1 ≤ cap) (hcap : cap ≤ MAXL) (hs : arr.size = cap * 2) (hs' : 2 ≤ xarr.size) :
    Calls Tryz.prog 27 #[.slice (some ⟨b,0,none⟩) els.length cap,.int .i64 i,.slice (some ⟨vb,0,none⟩) 1 vc] w fun e w'=>∃ A,e = .returned (.slice (some ⟨b,0,none⟩) (els.length + 1) cap) ∧ Bel [b] w w' ∧ w'.heap[b]? = some (.cells A T fz) ∧ A.size = arr.size ∧ ElsR m 2 (els.take i ++ x :: els.drop i) A:=by
  have hzE : tyOf Tryz.prog 46 = some (.agg #[.string ⟨#[]⟩,.slice none 0 0],2,40,true):=by kernel_rfl
  have mixed:=mixed0
  have t1:=Tryz.underlying22; have a1:=Tryz.isAgg22; have z1:=Tryz.sizeOf22; have v1:=Tryz.zeroValue22; have u1:=run_underlying Tryz.underlying22
  have t2:=Tryz.underlying46; have a2:=Tryz.isAgg46; have z2:=Tryz.sizeOf46; have v2:=Tryz.zeroValue46; have u2:=run_underlying Tryz.underlying46
  have t3:=Tryz.underlying3; have a3:=Tryz.isAgg3; have z3:=Tryz.sizeOf3; have v3:=Tryz.zeroValue3; have u3:=run_underlying Tryz.underlying3
  have t4:=Tryz.underlying4; have a4:=Tryz.isAgg4; have z4:=Tryz.sizeOf4; have v4:=Tryz.zeroValue4; have u4:=run_underlying Tryz.underlying4
  have hfz':=hz'.2 (by decide)
  subst hfz'
  unfold MAXL at hcap
  have hov : ∀ o lb cb,(callFunc 46 #[.slice (some ⟨vb,0,none⟩) 1 vc,.slice (some ⟨b,o,none⟩) lb cb]).run Tryz.prog w = .ok (.value (.bool false)) w:=fun o lb cb=>by
    rw [run_callFunc_extern Tryz.func46 (by kernel_rfl) (by kernel_rfl) (by kernel_rfl) (e:=Extern.SlicesOverlaps.overlaps #[22,22] #[4]) (by kernel_rfl),
      Lib.run_overlaps_apart w 22 4 46 Tryz.underlying22 2 Tryz.sizeOf46 ⟨vb,0,none⟩ ⟨b,o,none⟩ 1 vc lb cb hne T' T xarr.size arr.size (by simp [World.shape?,hv]) (by simp [World.shape?,hb]) (by omega) (by simp [World.frozen?,hv]) (by simp [World.frozen?,hv])]
    rfl
  have hw1 : IntKind.i64.wrap ((i : Int) + 1) = (i : Int) + 1:=by rw [IntKind.wrap_i64]; omega
  have hw2 : IntKind.i64.wrap ((els.length : Int) + 1) = (els.length : Int) + 1:=by rw [IntKind.wrap_i64]; omega
  have hb1 : (0 : Int) ≤ (i : Int) + 1:=by omega
  have htn : ((i : Int) + 1).toNat = i + 1:=by omega
  have hb3 : (i : Int) ≤ (els.length : Int) + 1:=by omega
  have hb2 : ¬ cap = i + 1:=by omega
  have hb4 : ¬ cap = i:=by omega
  have hb5 : (i : Int) + 1 ≤ (els.length : Int) + 1:=by omega
  obtain ⟨new,hnl,hnr,hn1,hng⟩:=src_from (P:=Tryz.prog) (l:=els.length + 1 - i) (cap:=cap - i) hb he (Nat.le_of_lt hi)
  obtain ⟨w1,hr1,hbel1,hh1⟩:=run_copy_in (P:=Tryz.prog) (w:=w.drew) (T:=22) (U:=22) (b:=b) (o:=(i + 1) * 2) (dLen:=els.length + 1 - (i + 1)) (dCap:=cap - (i + 1)) (sLen:=els.length + 1 - i) (n:=els.length - i) (sv:=.slice (some ⟨b,i * 2,none⟩) (els.length + 1 - i) (cap - i)) t1 hzE rfl (by simp only [Nat.min_def]; split <;> omega) (hnr w.drew rfl) hn1 hb hz.1 (by rw [hnl,hs]; omega) 3
  have hv1 : w1.heap[vb]? = some (.cells xarr T' (0,0)):=by
    rw [hbel1.block vb (lt_of_heap (w:=w.drew) hv) (by simpa using hne)]; exact hv
  obtain ⟨new2,hnl2,hnr2,hn12,hng2⟩:=src_from (P:=Tryz.prog) (w:=w1) (b:=vb) (i:=0) (l:=1) (cap:=vc) hv1 hx (Nat.zero_le _)
  simp only [List.length_cons,List.length_nil,Nat.zero_add,Nat.sub_zero,Nat.zero_mul,Nat.one_mul] at hnl2 hnr2 hng2
  obtain ⟨w2,hr2,hbel2,hh2⟩:=run_copy_in (P:=Tryz.prog) (w:=w1) (T:=22) (U:=22) (b:=b) (o:=i * 2) (dLen:=els.length + 1 - i) (dCap:=cap - i) (sLen:=1) (n:=1) (sv:=.slice (some ⟨vb,0,none⟩) 1 vc) t1 hzE rfl (by simp only [Nat.min_def]; split <;> omega) (hnr2 w1 rfl) hn12 hh1 (by rw [size_putL]; exact hz.1) (by rw [hnl2,size_putL,hs]; omega) 3
  have hA : ElsR m 2 (els.take i ++ x :: els.drop i) (putL (putL arr ((i + 1) * 2) new) (i * 2) new2):=by
    have b1 : (i + 1) * 2 + new.length ≤ arr.size:=by rw [hnl,hs]; omega
    have b2 : i * 2 + new2.length ≤ (putL arr ((i + 1) * 2) new).size:=by rw [hnl2,size_putL,hs]; omega
    refine ElsR.ins he hx (Nat.le_of_lt hi) (fun j hj=>?_) (fun j hj=>?_) (fun j h1 h2=>?_)
    · rw [get_putL _ _ _ b2,if_pos hj,get_putL _ _ _ b1,if_pos (by omega)]
    · rw [get_putL _ _ _ b2,if_neg (by omega),if_pos (by omega),show i * 2 + j - i * 2 = j by omega]
      exact hng2 j (by omega)
    · rw [get_putL _ _ _ b2,if_neg (by omega),if_neg (by omega),get_putL _ _ _ b1,if_neg (by omega),if_pos (by omega),hng _ (by omega)]
      congr 1; omega
  generalize hn : els.length = n at *
  go_enter Tryz.func27,Tryz.ntmps27
  go_wp2_with (simp only [hov])
  go_region_law_o (refine reg_copy rfl _ _ 22 22 rfl (by simp [Act.eval,Act.put,hb2]) (by simp [Act.eval,Act.put,hb4]) hr1 ?_)
  go_wp2_with (at_builtin; refine wpl_copy rfl _ _ 22 22 rfl rfl rfl hr2 ?_)
  go_ret
  refine ⟨_,rfl,((Bel.drew [b] w).trans hbel1).trans hbel2,hh2,by rw [size_putL,size_putL],hA⟩
set_option maxHeartbeats 4000000 in
set_option maxRecDepth 100000 in
theorem insF_grow {m : Mem} {b vb cap vc i : Nat} {els : List V} {x : V} {arr xarr : Array Value} {T T' : TypeId} {fz fz' : Nat × Nat} {w : World} (hb : w.heap[b]? = some (.cells arr T fz)) (hv : w.heap[vb]? = some (.cells xarr T' fz')) (he : ElsR m 2 els arr) (hx : ElsR m 2 [x] xarr)
    (hi : i < els.length) (hl : els.length ≤ 1000) (hlc : els.length ≤ cap) (hc : cap < els.length + 1) :
    Calls Tryz.prog 27 #[.slice (some ⟨b,0,none⟩) els.length cap,.int .i64 i,.slice (some ⟨vb,0,none⟩) 1 vc] w fun e w'=>∃ A nc,e = .returned (.slice (some ⟨w.heap.size,0,none⟩) (els.length + 1) nc) ∧ els.length + 1 ≤ nc ∧ nc ≤ MAXL ∧ Bel [] w w' ∧ w'.heap[w.heap.size]? = some (.cells A 46 (0,0)) ∧ A.size = nc * 2 ∧ ElsR m 2 (els.take i ++ x :: els.drop i) A:=by
  have hzE : tyOf Tryz.prog 46 = some (.agg #[.string ⟨#[]⟩,.slice none 0 0],2,40,true):=by kernel_rfl
  have mixed:=mixed0
  have t1:=Tryz.underlying22; have a1:=Tryz.isAgg22; have z1:=Tryz.sizeOf22; have v1:=Tryz.zeroValue22; have u1:=run_underlying Tryz.underlying22
  have t2:=Tryz.underlying46; have a2:=Tryz.isAgg46; have z2:=Tryz.sizeOf46; have v2:=Tryz.zeroValue46; have u2:=run_underlying Tryz.underlying46
  have t3:=Tryz.underlying3; have a3:=Tryz.isAgg3; have z3:=Tryz.sizeOf3; have v3:=Tryz.zeroValue3; have u3:=run_underlying Tryz.underlying3
  have t4:=Tryz.underlying4; have a4:=Tryz.isAgg4; have z4:=Tryz.sizeOf4; have v4:=Tryz.zeroValue4; have u4:=run_underlying Tryz.underlying4
  obtain ⟨i0,ui,hi0,hui,hiz,hik,hie,hig⟩:=tyOf_parts hzE
  have hw2 : IntKind.i64.wrap ((els.length : Int) + 1) = (els.length : Int) + 1:=by rw [IntKind.wrap_i64]; omega
  have hw1 : IntKind.i64.wrap ((i : Int) + 1) = (i : Int) + 1:=by rw [IntKind.wrap_i64]; omega
  have hw3 : IntKind.i64.wrap ((els.length : Int) + 1 - (i : Int)) = (els.length : Int) + 1 - (i : Int):=by rw [IntKind.wrap_i64]; omega
  have hb1 : (0 : Int) ≤ (i : Int) + 1:=by omega
  have htn : ((i : Int) + 1).toNat = i + 1:=by omega
  have hb3 : (i : Int) ≤ (els.length : Int) + 1:=by omega
  have hb5 : (i : Int) + 1 ≤ (els.length : Int) + 1:=by omega
  have hb6 : (i : Int) ≤ (cap : Int):=by omega
  have hb7 : (i : Int) ≤ (els.length : Int):=by omega
  have hb8 : i ≤ els.length:=by omega
  have hb9 : i ≤ cap:=by omega
  have hbw:=lt_of_heap hb
  have hvw:=lt_of_heap hv
  have hkk : (els.length : Int) + 1 - (i : Int) = ((els.length + 1 - i : Nat) : Int):=by omega
  have hik2 : i + (els.length + 1 - i) = els.length + 1:=by omega
  have S:=src_block (P:=Tryz.prog) (m:=m) (w:=w) (b:=b) (off:=0) (k:=2) (cap:=cap) (ys:=els.take i) hb (fun t y hy=>by
    rw [List.getElem?_take] at hy
    split at hy
    · simpa using he t y hy
    · cases hy)
  have hti : (els.take i).length = i:=by rw [List.length_take]; omega
  obtain ⟨olds,hol,hor,hog⟩ : ∃ olds : List Value,olds.length = i * 2 ∧ (Builtin.firstCells i0.size i (.slice (some ⟨b,0,none⟩) i cap)).run Tryz.prog w.drew = .ok olds.toArray w.drew ∧ ∀ j,j < i * 2 → olds[j]? = arr[j]?:=by
    refine ⟨_,S.size.trans (by rw [hti]),by have:=S.run w.drew rfl; rw [hti] at this ⊢; rw [hik]; exact this,fun j hj=>?_⟩
    rw [hti,List.getElem?_map,List.getElem?_range hj]
    obtain ⟨h1,h2,h3⟩:=index_split hj
    obtain ⟨g1,g2⟩:=he (j / 2) _ (List.getElem?_eq_getElem (by omega))
    obtain ⟨u,g3,g4⟩:=g2 (j % 2) _ (List.getElem?_eq_getElem (by omega))
    rw [h3] at g3
    simp [g3]
  have hrz:=Lib.run_append_grow_zeros w 22 3 22 46 i0 _ .i64 .i64 t1 t3 hi0 hiz (some ⟨b,0,none⟩) i cap olds hor (els.length + 1 - i) (by omega) (by omega) (by omega) (by omega) (by rw [hie]; omega) (by rw [hie,hik2]; exact growslice_fits hc (by omega))
  rw [hik2,← hkk] at hrz
  obtain ⟨G,hG⟩ : ∃ G,G = grownCap w (els.length + 1) cap 46:=⟨_,rfl⟩
  have hGn : els.length + 1 ≤ G:=by rw [hG]; exact grownCap_ge w _ _ _
  have hG63 : G ≤ 9223372036854775807:=by
    have:=grownCap_le_maxLen w (els.length + 1) cap 46 (by unfold maxLen; omega)
    rw [← hG] at this
    unfold maxLen at this
    omega
  rw [← hG] at hrz
  generalize hROW : olds.toArray ++ Builtin.zeroCells _ (els.length + 1 - i) ++ Builtin.zeroCells _ (G - (els.length + 1)) = ROW at hrz
  have hRs : ROW.size = G * 2:=by
    rw [← hROW]
    simp [zeroCells_size,hol,Value.cells]
    omega
  have hRo : ∀ j,j < i * 2 → ROW[j]? = arr[j]?:=fun j hj=>by
    rw [← hROW,Array.append_assoc,Array.getElem?_append_left (by simp; omega)]
    simpa using hog j hj
  have hNh : (w.drew.alloc (.cells ROW 46)).heap[w.heap.size]? = some (.cells ROW 46 (0,0)):=Gw.heap_alloc_new w.drew _
  have hB0 : Bel [] w (w.drew.alloc (.cells ROW 46)):=(Bel.drew [] w).trans (Bel.alloc [] _ _)
  generalize hW1 : w.drew.alloc (.cells ROW 46) = W1 at *
  have hv1 : W1.heap[vb]? = some (.cells xarr T' fz'):=by rw [hB0.block vb hvw (by simp)]; exact hv
  have hbW1 : W1.heap[b]? = some (.cells arr T fz):=by rw [hB0.block b hbw (by simp)]; exact hb
  have hGi : ¬ (G = i):=by omega
  have hGim : ¬ (G = i + 1):=by omega
  have hci : ¬ (cap = i):=by omega
  obtain ⟨new2,hnl2,hnr2,hn12,hng2⟩:=src_from (P:=Tryz.prog) (w:=W1) (b:=vb) (i:=0) (l:=1) (cap:=vc) hv1 hx (Nat.zero_le _)
  simp only [List.length_cons,List.length_nil,Nat.zero_add,Nat.sub_zero,Nat.zero_mul,Nat.one_mul] at hnl2 hnr2 hng2
  obtain ⟨w2,hr2,hbel2,hh2⟩:=run_copy_in (P:=Tryz.prog) (w:=W1) (T:=22) (U:=22) (b:=w.heap.size) (o:=i * 2) (dLen:=els.length + 1 - i) (dCap:=G - i) (sLen:=1) (n:=1) (sv:=.slice (some ⟨vb,0,none⟩) 1 vc) t1 hzE rfl (by simp only [Nat.min_def]; split <;> omega) (hnr2 W1 rfl) hn12 hNh (noFz0 _) (by rw [hnl2,hRs]; omega) 3
  have hb2 : w2.drew.heap[b]? = some (.cells arr T fz):=by
    have : w2.heap[b]? = some (.cells arr T fz):=by rw [hbel2.block b (Nat.lt_of_lt_of_le hbw hB0.size) (by simp; omega)]; exact hbW1
    exact this
  obtain ⟨new,hnl,hnr,hn1,hng⟩:=src_from (P:=Tryz.prog) (w:=w2.drew) (l:=els.length - i) (cap:=cap - i) hb2 he (Nat.le_of_lt hi)
  obtain ⟨w3,hr3,hbel3,hh3⟩:=run_copy_in (P:=Tryz.prog) (w:=w2.drew) (T:=22) (U:=22) (b:=w.heap.size) (o:=(i + 1) * 2) (dLen:=els.length + 1 - (i + 1)) (dCap:=G - (i + 1)) (sLen:=els.length - i) (n:=els.length - i) (sv:=.slice (some ⟨b,i * 2,none⟩) (els.length - i) (cap - i)) t1 hzE rfl (by simp only [Nat.min_def]; split <;> omega) (hnr w2.drew rfl) hn1 hh2 (noFz0 _) (by rw [hnl,size_putL,hRs]; omega) 3
  have hA : ElsR m 2 (els.take i ++ x :: els.drop i) (putL (putL ROW (i * 2) new2) ((i + 1) * 2) new):=by
    have b1 : i * 2 + new2.length ≤ ROW.size:=by rw [hnl2,hRs]; omega
    have b2 : (i + 1) * 2 + new.length ≤ (putL ROW (i * 2) new2).size:=by rw [hnl,size_putL,hRs]; omega
    refine ElsR.ins he hx (Nat.le_of_lt hi) (fun j hj=>?_) (fun j hj=>?_) (fun j h1 h2=>?_)
    · rw [get_putL _ _ _ b2,if_pos (by omega),get_putL _ _ _ b1,if_pos hj]
      exact hRo j hj
    · rw [get_putL _ _ _ b2,if_pos (by omega),get_putL _ _ _ b1,if_neg (by omega),if_pos (by omega),show i * 2 + j - i * 2 = j by omega]
      exact hng2 j (by omega)
    · rw [get_putL _ _ _ b2,if_neg (by omega),if_pos (by omega),hng _ (by omega)]
      congr 1; omega
  have hfin : Bel [] w w3:=by
    have h1 : Bel [w.heap.size] w w3:=((hB0.weaken (by simp)).trans hbel2).trans ((Bel.drew _ w2).trans hbel3)
    exact h1.weaken fun k hk hx=>by simp at hx; omega
  have hsz : (putL (putL ROW (i * 2) new2) ((i + 1) * 2) new).size = G * 2:=by rw [size_putL,size_putL,hRs]
  clear hb hv he hx hB0 hol hor hog hnl hnr hn1 hng hnl2 hnr2 hn12 hng2 hbel2 hbel3 hh2 hb2 hbW1 hv1 hNh hRo hRs hROW hG S hti hW1 hik hie hig hui hiz hi0 hik2 hkk
  generalize hn : els.length = n at *
  go_enter Tryz.func27,Tryz.ntmps27
  go_wp2_with (first
    | (at_builtin; refine wpl_append rfl _ _ 22 3 rfl rfl rfl hrz ?_)
    | (at_builtin; refine wpl_copy rfl _ _ 22 22 rfl rfl rfl hr2 ?_))
  go_region_law_o (refine reg_copy rfl _ _ 22 22 rfl (by simp [Act.eval,Act.put,hGim]) (by simp [Act.eval,Act.put,hci]) hr3 ?_)
  go_wp2
  go_ret
  exact ⟨_,_,rfl,hGn,hG63,hfin,hh3,hsz,hA⟩
theorem insF_E : EnvOK ⟨Tryz.prog,tys,[],[],[],[]⟩:=env_ok mixed0 tys0 .nil .nil .nil rfl
set_option maxHeartbeats 4000000 in
set_option maxRecDepth 100000 in
theorem insF_end {w0 : Start} {m0 R m : Mem} {q : Loc} {rows : Rows} {K : V → Rows → Prop} {w : World} {els : List V} {x : V} {r rv : Nat} {cap vc : Nat} {oa oa' : Option Addr} (C : Cf w0 m0 rows R m q w) (hr : rows[r]? = some (.row 2 els)) (hrv : rows[rv]? = some (.row 2 [x]))
    (hl : els.length ≤ 1000) (hv : VR m q (.own r) (.slice oa els.length cap)) (hv' : VR m q (.own rv) (.slice oa' 1 vc)) (hK : setK rows r .dead fun a=>pushK 0 a (.row 2 (els ++ [x])) fun j b=>K (.own j) b) :
    Calls Tryz.prog 27 #[.slice oa els.length cap,.int .i64 els.length,.slice oa' 1 vc] w fun e w'=>∃ u,e = .returned u ∧ After w0 m0 m q K u w':=by
  have ha : appO ⟨Tryz.prog,tys,[],[],[],[]⟩ 22 (.own r) (.own rv) rows (fun v rows'=>K v rows' ∧ ∃ j,v = .own j):=by
    rw [← nth_eq] at hr hrv
    obtain ⟨hrl,hK⟩:=setK_ok _ _ _ _ hK
    have hK:=pushK_ok _ _ _ _ hK
    refine (show elN 2 (.own rv) rows ∧ (match elsOf (.own rv) rows with
        | some ys => match nth rows r with
            | some (.row q els)=>match Nat.beq q 2 with
              | true=>(els.length + ys.length) * 40 ≤ 140737488355328 ∧ setK rows r .dead fun rows'=>pushK 0 rows' (.row 2 (els ++ ys)) fun r' rows''=>(fun v rows'=>K v rows' ∧ ∃ j,v = .own j) (.own r') rows''
              | false=>False
            | _=>False
        | none=>False) → _ from fun h=>h) ⟨?_,?_⟩
    · simp only [elN,hrv]; rfl
    · simp only [elsOf,hrv,hr]
      exact ⟨by simp; omega,setK_mk _ _ _ _ hrl (pushK_mk _ _ _ _ ⟨hK,_,rfl⟩)⟩
  obtain ⟨u,w',hrun,hA⟩:=appO_ok (T:=22) (U:=22) insF_E C hv hv' Tryz.underlying22 rfl ha 22
  obtain ⟨v,rows',R',m',q',⟨h1,j,rfl⟩,h2,h3,h4,h5⟩:=hA
  have hA : After w0 m0 m q K u w':=⟨_,rows',R',m',q',h1,h2,h3,h4,h5⟩
  obtain ⟨ua,un,uc,rfl⟩ : ∃ a n c,u = .slice a n c:=by
    cases h5; exact ⟨_,_,_,rfl⟩
  have mixed:=mixed0
  have t1:=Tryz.underlying22; have a1:=Tryz.isAgg22; have z1:=Tryz.sizeOf22; have v1:=Tryz.zeroValue22; have u1:=run_underlying Tryz.underlying22
  have t2:=Tryz.underlying46; have a2:=Tryz.isAgg46; have z2:=Tryz.sizeOf46; have v2:=Tryz.zeroValue46; have u2:=run_underlying Tryz.underlying46
  have t3:=Tryz.underlying3; have a3:=Tryz.isAgg3; have z3:=Tryz.sizeOf3; have v3:=Tryz.zeroValue3; have u3:=run_underlying Tryz.underlying3
  have t4:=Tryz.underlying4; have a4:=Tryz.isAgg4; have z4:=Tryz.sizeOf4; have v4:=Tryz.zeroValue4; have u4:=run_underlying Tryz.underlying4
  clear ha hK h1 h2 h3 h4 h5
  generalize hn : els.length = n at *
  go_enter Tryz.func27,Tryz.ntmps27
  go_wp2_with (at_builtin; refine wpl_append rfl _ _ 22 22 rfl rfl rfl hrun ?_)
  all_goals (go_ret; exact ⟨_,rfl,hA⟩)
theorem insF_ca : callable Tryz.prog 27 = true:=by kernel_rfl
def insF_P : PSpec:=fun args rows K=>∃ (els : List V) (x : V) (i r rv : Nat),args = [.own r,.int .i64 i,.own rv] ∧ r ≠ rv ∧ rows[r]? = some (.row 2 els) ∧ rows[rv]? = some (.row 2 [x]) ∧ i ≤ els.length ∧ els.length ≤ 1000 ∧ setK rows r .dead fun a=>pushK 0 a (.row 2 (els.take i ++ x :: els.drop i)) fun j b=>K (.own j) b
set_option maxHeartbeats 4000000 in
theorem insF_prim : PrimOK Tryz.prog 27 insF_P:=by
  intro w0 m0 args rows K R m q w us C hv hT
  obtain ⟨els,x,i,r,rv,rfl,hne,hr,hrv,hi,hl,hK⟩:=hT
  have hlen : us.length = 3:=by rw [← hv.len]; rfl
  obtain ⟨u,u',u'',rfl⟩ : ∃ u u' u'',us = [u,u',u'']:=by
    match us,hlen with
    | [u,u',u''],_=>exact ⟨u,u',u'',rfl⟩
  have hu:=hv.el 0 (.own r) u rfl rfl
  have hu':=hv.el 1 (.int .i64 i) u' rfl rfl
  have hu'':=hv.el 2 (.own rv) u'' rfl rfl
  cases hu'
  refine ⟨insF_ca,?_⟩
  obtain ⟨ob,cap,g1,g2,g3,g4,g5⟩:=C.rok.row r _ hr
  obtain ⟨ob',cap',g1',g2',g3',g4',g5'⟩:=C.rok.row rv _ hrv
  have h0:=hu
  have h0'':=hu''
  cases hu with | own hq=>?_
  cases hu'' with | own hq''=>?_
  rw [g1] at hq; cases hq
  rw [g1'] at hq''; cases hq''
  by_cases hin : i = els.length
  · subst hin
    rw [List.take_length,List.drop_length] at hK
    exact insF_end C hr hrv hl h0 h0'' hK
  have hlt : i < els.length:=by omega
  obtain ⟨b,rfl⟩ : ∃ b,ob = some b:=by
    cases ob with
    | some b=>exact ⟨b,rfl⟩
    | none=>have:=g4 rfl; omega
  obtain ⟨vb,rfl⟩ : ∃ b,ob' = some b:=by
    cases ob' with
    | some b=>exact ⟨b,rfl⟩
    | none=>have:=g4' rfl; simp at g2'; omega
  obtain ⟨arr,T,fz,a1,a2,a3,a4⟩:=g5 b rfl
  obtain ⟨xarr,T',fz',b1,b2,b3,b4⟩:=g5' vb rfl
  have hbh:=(C.sit.own _ _ a1).2.1
  have hvh:=(C.sit.own _ _ b1).2.1
  have hbv : vb ≠ b:=fun e=>hne (C.rok.apart r rv _ _ b hr hrv rfl rfl (occ_one rfl g1) (occ_one rfl (e ▸ g1')))
  obtain ⟨hrl,hK⟩:=setK_ok _ _ _ _ hK
  have hK:=pushK_ok _ _ _ _ hK
  rw [Nat.zero_add,List.length_set] at hK
  have hlA : (els.take i ++ x :: els.drop i).length = els.length + 1:=by simp; omega
  by_cases hc : els.length + 1 ≤ cap
  · refine (insF_in (m:=m) (vc:=cap') hbh hvh hbv a4 b4 a3 b3 hlt hl hc g3 a2 (by rw [b2]; simp at g2'; omega)).mono fun e w' he=>?_
    obtain ⟨A,rfl,hbel,hh,hs,hA⟩:=he
    have S':=C.sit.write a1 hbel hh
    have hnew : RowOK (R.put b (.cells A T fz)) m (q.add rows.length (some b,(els.take i ++ x :: els.drop i).length,cap,2)) rows.length (.row 2 (els.take i ++ x :: els.drop i)) :=
      ⟨some b,cap,add_self _ _ _,by rw [hlA]; exact hc,g3,(fun h=>by cases h),fun b' hb'=>by cases hb'; exact ⟨A,T,fz,by simp [Mem.put],by rw [hs,a2],hA,by rw [hs]; exact a4⟩⟩
    refine ⟨_,rfl,_,_,_,_,_,hK,C.move hr rfl g1 S' hnew,Mem.Le.refl m,C.le_add _,?_⟩
    have:=VR.own (m:=m) (add_self q rows.length (some b,(els.take i ++ x :: els.drop i).length,cap,2))
    rw [hlA] at this ⊢
    exact this
  · refine (insF_grow (m:=m) (vc:=cap') hbh hvh a3 b3 hlt hl g2 (by omega)).mono fun e w' he=>?_
    obtain ⟨A,nc,rfl,h1,h2,hbel,hh,hs,hA⟩:=he
    have C2:=(C.kill hr).rowG hbel hh (noFk0 2 _) hs (els:=els.take i ++ x :: els.drop i) (by rw [hlA]; exact h1) h2 hA
    rw [List.length_set] at C2
    refine ⟨_,rfl,_,_,_,_,_,hK,C2,Mem.Le.refl m,C.le_add _,?_⟩
    have:=VR.own (m:=m) (add_self q rows.length (some w.heap.size,(els.take i ++ x :: els.drop i).length,nc,2))
    rw [hlA] at this ⊢
    exact this
end Gv
namespace Gv
variable [Glob] [Laid]
theorem putF_ca : callable Tryz.prog 13 = true:=by kernel_rfl
def putF_S : Spec:=fun args K=>∃ (F : List FileS) (n b : Bs),args = [.sl fileV F,.str n,.sl byteV b] ∧ K (.tup [.sl fileV (putS F n b).1,.int .i64 (putS F n b).2])
noncomputable def putF_lib : List (Nat × Spec):=[(9,cfiles_S),(18,word_S),(26,placeF_S),(21,cloneB_S)]
noncomputable def putF_fns : List (Nat × FnI):=[(27,{ fn:=Tryz.f27,spec:=some insF_P })]
noncomputable def putF_prims : List (Nat × PSpec):=[(11,copyO_P)]
theorem putF_E : EnvOK ⟨Tryz.prog,tys,putF_lib,putF_fns,putF_prims,[]⟩:=env_ok mixed0 tys0 (.cons cfiles_ca cfiles_ok (.cons word_ca word_ok (.cons placeF_ca placeF_ok (.cons cloneB_ca cloneB_ok .nil)))) (.told insF_ca rfl insF_prim .nil) (.cons copyO_prim .nil) rfl
set_option maxHeartbeats 8000000 in
theorem putF_ok : Pure Tryz.prog 13 putF_S:=by
  refine pure_by putF_E 6 (fi:={fn:=Tryz.f13,hooks:=[],draws:=[]}) ⟨Tryz.func13,by kernel_rfl,by kernel_rfl⟩ ?_
  rintro _ K ⟨F,n,b,rfl,hK⟩
  replace hK : ∀ r,r = .tup [.sl fileV (putS F n b).1,.int .i64 (putS F n b).2] → K r:=fun r h=>h ▸ hK
  refine ⟨F,rfl,?_⟩
  repeat' first | (refine fun (b : Bool) hb=>?_; cases b <;> (first | exact absurd hb (by decide) | exact Bool.noConfusion (show true = false from hb) | exact Bool.noConfusion (show false = true from hb) | skip)) | fail
  rotate_left
  · have h0 : checkFiles F ≠ 0:=by simpa using ‹(!decide (checkFiles F = 0)) = true›
    refine ⟨FileS,fileV,?_⟩
    refine hK _ ?_
    unfold putS
    rw [if_pos h0]
  have h0 : checkFiles F = 0:=by simpa using ‹(!decide (checkFiles F = 0)) = false›
  obtain ⟨h12,hall⟩:=checkFiles_ok h0
  conv=>whnf
  refine ⟨n,rfl,?_⟩
  repeat' first | (refine fun (b : Bool) hb=>?_; cases b <;> (first | exact absurd hb (by decide) | exact Bool.noConfusion (show true = false from hb) | exact Bool.noConfusion (show false = true from hb) | skip)) | (refine fun (hl : _ ≤ MAXL)=>?_) | fail
  rotate_left
  · have h1 : isWord n = true:=by simpa using ‹(!isWord n) = false›
    have h2 : 4000 < b.length:=by
      have h:=of_decide_eq_true (by assumption : decide (4000 < (b.length : Int)) = true)
      omega
    conv=>whnf
    skip
    refine ⟨FileS,fileV,?_⟩
    refine hK _ ?_
    unfold putS
    rw [if_neg (by rw [h0]; decide),if_neg (by rw [h1]; decide),if_pos h2]
  · have h1 : isWord n = false:=by simpa using ‹(!isWord n) = true›
    conv=>whnf
    skip
    refine ⟨FileS,fileV,?_⟩
    refine hK _ ?_
    unfold putS
    rw [if_neg (by rw [h0]; decide),if_pos h1]
  have h1 : isWord n = true:=by simpa using ‹(!isWord n) = false›
  have h2 : ¬ 4000 < b.length:=by
    have h:=of_decide_eq_false (by assumption : decide (4000 < (b.length : Int)) = false)
    omega
  conv=>whnf
  skip
  refine ⟨F,n,rfl,?_⟩
  repeat' first | (refine fun (b : Bool) hb=>?_; cases b <;> (first | exact absurd hb (by decide) | exact Bool.noConfusion (show true = false from hb) | exact Bool.noConfusion (show false = true from hb) | skip)) | (refine fun (hl : _ ≤ MAXL)=>?_) | fail
  · have h3 : isAt F n = true:=by simpa using ‹(!isAt F n) = false›
    obtain ⟨hp,hn⟩:=isAt_lt h3
    have hpm : placeI F n < (F.map fileV).length:=by rw [List.length_map]; exact hp
    conv=>whnf
    skip
    conv=>whnf
    skip
    refine ⟨F,rfl,rfl,⟨by omega,fun f hf=>by have:=(hall f hf).2; omega⟩,?_⟩
    conv=>whnf
    skip
    refine ⟨b,rfl,by omega,?_⟩
    conv=>whnf
    repeat' first | (refine fun (b : Bool) hb=>?_; cases b <;> (first | exact absurd hb (by decide) | exact Bool.noConfusion (show true = false from hb) | exact Bool.noConfusion (show false = true from hb) | skip)) | refine ⟨rfl,?_⟩ | fail
    · exact absurd ((‹isAt F n = false› : isAt F n = false).symm.trans h3) (by decide)
    refine ⟨_,rfl,hpm,?_⟩
    conv=>whnf
    skip
    refine ⟨hpm,?_⟩
    conv=>whnf
    skip
    refine ⟨FileS,fileV,F.set (placeI F n) ⟨n,b⟩,by rw [List.map_set]; exact LeL.refl _,?_⟩
    refine hK _ ?_
    unfold putS putGo
    rw [if_neg (by rw [h0]; decide),if_neg (by rw [h1]; decide),if_neg h2,if_neg (fun h=>by rw [h.1] at h3; cases h3),if_pos h3]
  · have h3 : isAt F n = false:=by simpa using ‹(!isAt F n) = true›
    conv=>whnf
    skip
    conv=>whnf
    skip
    refine ⟨F,rfl,rfl,⟨by omega,fun f hf=>by have:=(hall f hf).2; omega⟩,?_⟩
    conv=>whnf
    skip
    refine ⟨b,rfl,by omega,?_⟩
    conv=>whnf
    repeat' first | (refine fun (b : Bool) hb=>?_; cases b <;> (first | exact absurd hb (by decide) | exact Bool.noConfusion (show true = false from hb) | exact Bool.noConfusion (show false = true from hb) | skip)) | refine ⟨rfl,?_⟩ | fail
    rotate_left
    · exact absurd ((‹isAt F n = true› : isAt F n = true).symm.trans h3) (by decide)
    conv=>whnf
    skip
    refine ⟨F.map fileV,.agg [.str n,.sl byteV b],placeI F n,0,2,rfl,by decide,rfl,rfl,by rw [List.length_map]; exact place_le F n,by rw [List.length_map]; omega,?_⟩
    conv=>whnf
    skip
    refine ⟨FileS,fileV,F.take (placeI F n) ++ ⟨n,b⟩ :: F.drop (placeI F n),by rw [List.map_append,List.map_cons,List.map_take,List.map_drop]; exact LeL.refl _,?_⟩
    refine hK _ ?_
    have h4 : ¬ F.length = 12:=by
      have h:=of_decide_eq_false (by assumption : decide ((F.length : Int) = 12) = false)
      omega
    unfold putS putGo
    rw [if_neg (by rw [h0]; decide),if_neg (by rw [h1]; decide),if_neg h2,if_neg (fun h=>h4 h.2),if_neg (by rw [h3]; decide)]
  · have h3 : isAt F n = false:=by simpa using ‹(!isAt F n) = true›
    have h4 : F.length = 12:=by
      have h:=of_decide_eq_true (by assumption : decide ((F.length : Int) = 12) = true)
      omega
    conv=>whnf
    skip
    refine ⟨FileS,fileV,?_⟩
    refine hK _ ?_
    unfold putS
    rw [if_neg (by rw [h0]; decide),if_neg (by rw [h1]; decide),if_neg h2,if_pos ⟨h3,h4⟩]
end Gv
namespace Gv
variable [Glob] [Laid] [Nums]
theorem runS_ca : callable Tryz.prog 4 = true:=by kernel_rfl
def runS_S : Spec:=fun args K=>∃ (F : List FileS) (s : List LineS),args = [.sl fileV F,.sl lineV s] ∧ K (.tup [.sl fileV (runL shellLine F s).1,.int .i64 (runL shellLine F s).2])
noncomputable def runS_lib : List (Nat × Spec):=[(9,cfiles_S),(10,scheckS_S),(11,copyF_S),(12,lineF_S),(13,putF_S)]
noncomputable def runS_fns : List (Nat × FnI):=[]
noncomputable def runS_prims : List (Nat × PSpec):=[]
theorem runS_E : EnvOK ⟨Tryz.prog,tys,runS_lib,runS_fns,runS_prims,[]⟩:=env_ok mixed0 tys0 (.cons cfiles_ca cfiles_ok (.cons scheckS_ca scheckS_ok (.cons copyF_ca copyF_ok (.cons lineF_ca lineF_ok (.cons putF_ca putF_ok .nil))))) .nil .nil rfl
set_option maxHeartbeats 8000000 in
theorem runS_ok : Pure Tryz.prog 4 runS_S:=by
  refine pure_by runS_E 6 (fi:={fn:=Tryz.f4,hooks:=[],draws:=[]}) ⟨Tryz.func4,by kernel_rfl,by kernel_rfl⟩ ?_
  rintro _ K ⟨F,s,rfl,hK⟩
  replace hK : ∀ r,r = .tup [.sl fileV (runL shellLine F s).1,.int .i64 (runL shellLine F s).2] → K r:=fun r h=>h ▸ hK
  refine ⟨F,rfl,?_⟩
  repeat' first | (refine fun (b : Bool) hb=>?_; cases b <;> (first | exact absurd hb (by decide) | exact Bool.noConfusion (show true = false from hb) | exact Bool.noConfusion (show false = true from hb) | skip)) | fail
  rotate_left
  · have h0 : checkFiles F ≠ 0:=by simpa using ‹(!decide (checkFiles F = 0)) = true›
    refine ⟨FileS,fileV,?_⟩
    refine hK _ ?_
    unfold runL
    rw [if_pos h0]
  have h0 : checkFiles F = 0:=by simpa using ‹(!decide (checkFiles F = 0)) = false›
  obtain ⟨h12,hall⟩:=checkFiles_ok h0
  conv=>whnf
  refine ⟨s,rfl,?_⟩
  repeat' first | (refine fun (b : Bool) hb=>?_; cases b <;> (first | exact absurd hb (by decide) | exact Bool.noConfusion (show true = false from hb) | exact Bool.noConfusion (show false = true from hb) | skip)) | fail
  rotate_left
  · have h1 : checkS s ≠ 0:=by simpa using ‹(!decide (checkS s = 0)) = true›
    refine ⟨FileS,fileV,?_⟩
    refine hK _ ?_
    unfold runL
    rw [if_neg (by rw [h0]; decide),if_pos h1]
  have h1 : checkS s = 0:=by simpa using ‹(!decide (checkS s = 0)) = false›
  have hone : ∀ r : List FileS × Int,runGoL shellLine F s = r → K (.tup [.sl fileV r.1,.int .i64 r.2]):=fun r h=>hK _ (by unfold runL; rw [if_neg (by rw [h0]; decide),if_neg (by rw [h1]; decide),h])
  conv=>whnf
  skip
  refine ⟨F,rfl,⟨by omega,fun f hf=>by have:=(hall f hf).2; omega⟩,?_⟩
  conv=>whnf
  repeat' first | (refine fun (hl : _ ≤ MAXL)=>?_) | fail
  conv=>whnf
  refine loop_live [24,25] (σ:=Nat × List FileS) (fun t=>[(26,.int .i64 t.1),(0,.sl fileV t.2)]) (fun _=>[]) (fun t=>t.1 ≤ s.length ∧ runGoL shellLine t.2 (s.drop t.1) = runGoL shellLine F s) (fun t=>s.length - t.1) (0,F) ?_
  conv=>whnf
  refine ⟨(by (refine wk_auto ?_; refine Sel4.mk rfl rfl ?_ ?_ <;> (repeat' (first | exact True.intro | exact rfl | exact Or.inl rfl | exact Or.inr rfl | refine And.intro ?_ ?_ | fail)))),⟨Nat.zero_le _,rfl⟩,fun t ht=>?_⟩
  obtain ⟨i,G⟩:=t
  obtain ⟨hi,hg⟩:=ht
  dsimp only at hi hg
  repeat' first | (refine fun (b : Bool) hb=>?_; cases b <;> (first | exact absurd hb (by decide) | exact Bool.noConfusion (show true = false from hb) | exact Bool.noConfusion (show false = true from hb) | skip)) | refine ⟨_,rfl,?_,rfl,?_⟩ | fail
  · have hge : ¬ (i : Int) < (s.length : Int):=of_decide_eq_false (by assumption)
    have e : s.drop i = []:=List.drop_eq_nil_of_le (by omega)
    rw [e] at hg
    conv=>whnf
    skip
    exact hone _ hg.symm
  · have h:=of_decide_eq_true (by assumption : decide ((i : Int) < (s.length : Int)) = true)
    show i < s.length
    omega
  have hlt : i < s.length:=by
    have h:=of_decide_eq_true (by assumption : decide ((i : Int) < (s.length : Int)) = true)
    omega
  rw [List.drop_eq_getElem_cons hlt,runGoL] at hg
  conv=>whnf
  skip
  refine ⟨G,s[i].frm,s[i].cmds,s[i].to,rfl,?_⟩
  rw [show (⟨s[i].frm,s[i].cmds,s[i].to⟩ : LineS) = s[i] from rfl]
  repeat' first | (refine fun (b : Bool) hb=>?_; cases b <;> (first | exact absurd hb (by decide) | exact Bool.noConfusion (show true = false from hb) | exact Bool.noConfusion (show false = true from hb) | skip)) | fail
  rotate_left
  · have h2 : (shellLine G s[i]).2 ≠ 0:=by simpa using ‹(!decide ((shellLine G s[i]).2 = 0)) = true›
    rw [if_pos h2] at hg
    conv=>whnf
    skip
    refine ⟨FileS,fileV,?_⟩
    exact hone _ hg.symm
  have h2 : (shellLine G s[i]).2 = 0:=by simpa using ‹(!decide ((shellLine G s[i]).2 = 0)) = false›
  rw [if_neg (by rw [h2]; decide)] at hg
  conv=>whnf
  skip
  refine ⟨G,s[i].to,(shellLine G s[i]).1,rfl,?_⟩
  repeat' first | (refine fun (b : Bool) hb=>?_; cases b <;> (first | exact absurd hb (by decide) | exact Bool.noConfusion (show true = false from hb) | exact Bool.noConfusion (show false = true from hb) | skip)) | refine And.intro (a:=I64 _) ?_ ?_ | fail
  · have hm : s.length ≤ MAXL:=by assumption
    unfold I64; unfold MAXL at hm
    dsimp only
    omega
  · have h3 : (putS G s[i].to (shellLine G s[i]).1).2 = 0:=by simpa using ‹(!decide ((putS G s[i].to (shellLine G s[i]).1).2 = 0)) = false›
    rw [if_neg (by rw [h3]; decide)] at hg
    conv=>whnf
    skip
    refine ⟨(i + 1,(putS G s[i].to (shellLine G s[i]).1).1),(by (refine wk_auto ?_; refine Sel4.mk rfl rfl ?_ ?_ <;> (repeat' (first | exact True.intro | exact rfl | exact Or.inl rfl | exact Or.inr rfl | refine And.intro ?_ ?_ | fail)))),⟨hlt,hg⟩,by show s.length - (i + 1) < s.length - i; omega⟩
  · have h3 : (putS G s[i].to (shellLine G s[i]).1).2 ≠ 0:=by simpa using ‹(!decide ((putS G s[i].to (shellLine G s[i]).1).2 = 0)) = true›
    rw [if_pos h3] at hg
    conv=>whnf
    skip
    refine ⟨FileS,fileV,?_⟩
    exact hone _ hg.symm
end Gv
namespace Gv
variable [Glob] [Laid]
def joinFor (c : Cmd) : Int × Int:=if checkCmd c = 0 then (howFor c,0) else (0,checkCmd c)
theorem for_ca : callable Tryz.prog 53 = true:=by kernel_rfl
def for_S : Spec:=fun args K=>∃ (k : Int) (s : Bs) (n : Int),args = [.agg [.int .i64 k,.str s,.int .i64 n]] ∧ K (.tup [.int .i64 (joinFor ⟨k,s,n⟩).1,.int .i64 (joinFor ⟨k,s,n⟩).2])
noncomputable def for_lib : List (Nat × Spec):=[(35,ccheck_S)]
noncomputable def for_fns : List (Nat × FnI):=[]
noncomputable def for_prims : List (Nat × PSpec):=[]
theorem for_E : EnvOK ⟨Tryz.prog,tys,for_lib,for_fns,for_prims,[]⟩:=env_ok mixed0 tys0 (.cons ccheck_ca ccheck_ok .nil) .nil .nil rfl
set_option maxHeartbeats 4000000 in
theorem for_ok : Pure Tryz.prog 53 for_S:=by
  refine pure_by for_E 6 (fi:={fn:=Tryz.f53,hooks:=[],draws:=[]}) ⟨Tryz.func53,by kernel_rfl,by kernel_rfl⟩ ?_
  rintro _ K ⟨k,s,n,rfl,hK⟩
  replace hK : ∀ r,r = .tup [.int .i64 (joinFor ⟨k,s,n⟩).1,.int .i64 (joinFor ⟨k,s,n⟩).2] → K r:=fun r h=>h ▸ hK
  refine ⟨k,s,n,rfl,?_⟩
  unfold joinFor howFor at hK
  generalize checkCmd ⟨k,s,n⟩ = c at hK ⊢
  repeat' first | (refine fun (b : Bool) hb=>?_; cases b <;> (first | exact absurd hb (by decide) | exact Bool.noConfusion (show true = false from hb) | exact Bool.noConfusion (show false = true from hb) | skip)) | fail
  all_goals (refine hK _ ?_; grind)
end Gv
namespace Gv
variable [Glob] [Laid]
theorem plan_ca : callable Tryz.prog 28 = true:=by kernel_rfl
def plan_S : Spec:=fun args K=>∃ (f : List Bs) (c : List Cmd) (t : Bs) (w : Int),args = [.agg [.sl strV f,.sl cmdV c,.str t],.int .i64 w] ∧ K (.tup [.agg [.sl nodeV (plan ⟨f,c,t⟩ w).1],.int .i64 (plan ⟨f,c,t⟩ w).2])
noncomputable def plan_lib : List (Nat × Spec):=[(19,cline_S),(52,each_S),(53,for_S)]
noncomputable def plan_fns : List (Nat × FnI):=[(48,{fn:=Tryz.f48,hooks:=[],draws:=[(1,[0,0,2,6,14,30,0,64,254,511,1023,2047,4095])],frz:=true}),(49,{fn:=Tryz.f49,hooks:=[],draws:=[]}),(50,{fn:=Tryz.f50,hooks:=[],draws:=[(6,[0,0,2,6,14,0,32,0,224,480,1022,2047,4095,8191])]}),(51,{fn:=Tryz.f51,hooks:=[],draws:=[]})]
noncomputable def plan_prims : List (Nat × PSpec):=[]
theorem plan_E : EnvOK ⟨Tryz.prog,tys,plan_lib,plan_fns,plan_prims,[]⟩:=env_ok mixed0 tys0 (.cons cline_ca cline_ok (.cons each_ca each_ok (.cons for_ca for_ok .nil))) (.cons (by kernel_rfl) ⟨Tryz.func48,by kernel_rfl,by kernel_rfl⟩ (.cons (by kernel_rfl) ⟨Tryz.func49,by kernel_rfl,by kernel_rfl⟩ (.cons (by kernel_rfl) ⟨Tryz.func50,by kernel_rfl,by kernel_rfl⟩ (.cons (by kernel_rfl) ⟨Tryz.func51,by kernel_rfl,by kernel_rfl⟩ .nil)))) .nil rfl
set_option maxHeartbeats 4000000 in
theorem plan_ok : Pure Tryz.prog 28 plan_S:=by
  refine pure_by plan_E 6 (fi:={fn:=Tryz.f28,hooks:=[13,17,26],draws:=[(10,[0,0,2,6,14,0,0,64,224,480,1022,2047,4095,8191]),(26,[0,0,2,0,8,24,56,126,255])]}) ⟨Tryz.func28,by kernel_rfl,by kernel_rfl⟩ ?_
  rintro _ K ⟨f,c,t,w,rfl,hK⟩
  replace hK : ∀ r,r = .tup [.agg [.sl nodeV (plan ⟨f,c,t⟩ w).1],.int .i64 (plan ⟨f,c,t⟩ w).2] → K r:=fun r h=>h ▸ hK
  refine ⟨f,c,t,rfl,?_⟩
  by_cases hc : checkLine ⟨f,c,t⟩ = 0
  rotate_left
  · have e1 : plan ⟨f,c,t⟩ w = ([],checkLine ⟨f,c,t⟩):=by unfold plan; rw [if_pos hc]
    rw [e1] at hK
    generalize checkLine ⟨f,c,t⟩ = e at hc hK ⊢
    repeat' first | (refine fun (b : Bool) hb=>?_; cases b <;> (first | exact absurd hb (by decide) | exact Bool.noConfusion (show true = false from hb) | exact Bool.noConfusion (show false = true from hb) | skip)) | (refine fun (hl : _ ≤ MAXL)=>?_) | refine ⟨Gp.Node,nodeV,?_⟩ | fail
    · exfalso
      grind
    · exfalso
      grind
    · exfalso
      grind
    · exact hK _ rfl
  rw [hc]
  by_cases hw : w < 1 ∨ 5 < w
  · have e1 : plan ⟨f,c,t⟩ w = ([],3):=by unfold plan; rw [if_neg (by simp [hc]),if_pos hw]
    rw [e1] at hK
    repeat' first | (refine fun (b : Bool) hb=>?_; cases b <;> (first | exact absurd hb (by decide) | exact Bool.noConfusion (show true = false from hb) | exact Bool.noConfusion (show false = true from hb) | skip)) | (refine fun (hl : _ ≤ MAXL)=>?_) | refine ⟨Gp.Node,nodeV,?_⟩ | fail
    · exfalso
      grind
    · exact hK _ rfl
    · exact hK _ rfl
  have e1 : plan ⟨f,c,t⟩ w = (planNodes ⟨f,c,t⟩ w,0):=by unfold plan; rw [if_neg (by simp [hc]),if_neg hw]
  rw [e1] at hK
  repeat' first | (refine fun (b : Bool) hb=>?_; cases b <;> (first | exact absurd hb (by decide) | exact Bool.noConfusion (show true = false from hb) | exact Bool.noConfusion (show false = true from hb) | skip)) | (refine fun (hl : _ ≤ MAXL)=>?_) | refine ⟨Gp.Node,nodeV,?_⟩ | fail
  rotate_left
  · exfalso
    grind
  · exfalso
    grind
  have hfl : f.length ≤ 4 ∧ 1 ≤ f.length ∧ c.length ≤ 6:=by
    unfold checkLine at hc
    split at hc
    · cases hc
    · rename_i h
      dsimp only at h
      omega
  have hfb : firstBad c = 0:=by
    unfold checkLine at hc
    split at hc
    · cases hc
    · split at hc
      · cases hc
      · exact hc
  have hpl:=fun i hi=>steps_ok (l:=⟨f,c,t⟩) (wide:=w) ⟨hfl.2.1,hfl.1⟩ (by omega) i hi
  have hsr:=fun i=>srcs_len (f.take i)
  conv=>whnf
  refine loop_live [1,2,4,7,29,30] (σ:=Nat) (fun i=>[(31,.int .i64 i)]) (fun i=>[.box [.sl strV f,.sl cmdV c,.str t],.box [.nil],.box [.own 3,.own 4],.row 8 ((srcs (f.take i)).nodes.map nodeV),.row 2 ((srcs (f.take i)).cur.map portV)]) (fun i=>i ≤ f.length) (fun i=>f.length - i) 0 ?_
  conv=>whnf
  refine ⟨(by (refine wk_sel [some 0,some 1,some 2,none,none] rfl rfl ?_ ?_ <;> (repeat' (first | exact True.intro | exact rfl | exact Or.inl rfl | exact Or.inr rfl | refine And.intro ?_ ?_ | fail)))),Nat.zero_le _,fun i hi=>?_⟩
  have hsi:=hsr i
  have hst : ∀ h : i < f.length,srcs (f.take (i + 1)) = (srcs (f.take i)).src f[i]:=fun h=>srcs_take h
  have hli : (f.take i).length ≤ 4:=by simp; omega
  obtain ⟨d,hdq⟩ : ∃ d,srcs (f.take i) = d:=⟨_,rfl⟩
  rw [hdq] at hsi hst ⊢
  obtain ⟨hs1,hs2,-⟩:=hsi
  repeat' first | exact True.intro | (refine fun (b : Bool) hb=>?_; cases b <;> (first | exact absurd hb (by decide) | exact Bool.noConfusion (show true = false from hb) | exact Bool.noConfusion (show false = true from hb) | skip)) | refine ⟨_,⟨rfl,rfl⟩,?_⟩ | refine And.intro (a:=chkPast _ _ _ _ _ _ _ _) ?_ ?_ | refine ⟨_,rfl,?_,rfl,?_⟩ | fail
  rotate_left
  · grind
  · have hi2 : i < f.length:=by grind
    apply Exists.intro
    apply Exists.intro
    apply And.intro
    · repeat' first | exact True.intro | refine ⟨_,⟨rfl,rfl⟩,?_⟩ | refine And.intro (a:=chkPast _ _ _ _ _ _ _ _) ?_ ?_ | fail
      refine ⟨_,⟨Gp.Port,portV,Gp.Node,nodeV,[srcN f[i]],LeL.refl _,rfl,rfl⟩,?_⟩
      refine ⟨_,_,⟨fun _=>rfl,?_,rfl,rfl⟩,?_⟩
      · simp only [List.length_map,List.length_cons,List.length_nil,elsOf]
        omega
      repeat' first | exact True.intro | (refine fun (hl : _ ≤ MAXL)=>?_) | refine And.intro (a:=I64 _) ?_ ?_ | refine ⟨_,⟨rfl,rfl⟩,?_⟩ | refine ⟨_,_,⟨rfl,rfl⟩,?_⟩ | refine And.intro (a:=chkPend _ _ _ _ _ _) ?_ ?_ | refine ⟨rfl,?_⟩ | fail
      · simp only [List.length_append,List.length_map,List.length_cons,List.length_nil]
        unfold I64
        omega
      · exact rfl
    · repeat' first | exact True.intro | refine And.intro (a:=chkPend _ _ _ _ _ _) ?_ ?_ | refine ⟨⟨rfl,rfl⟩,?_⟩ | fail
      refine ⟨_,⟨Gp.Port,portV,[⟨(((d.nodes.map nodeV ++ [srcN f[i]].map nodeV).length : Nat) : Int) - 1,0⟩],LeL.refl _,rfl,rfl⟩,?_⟩
      refine ⟨_,_,⟨fun _=>rfl,?_,rfl,rfl⟩,?_⟩
      · simp only [List.length_map,List.length_cons,List.length_nil,elsOf]
        omega
      repeat' first | exact True.intro | refine And.intro (a:=I64 _) ?_ ?_ | refine ⟨_,⟨rfl,rfl⟩,?_⟩ | refine ⟨_,_,⟨rfl,rfl⟩,?_⟩ | refine And.intro (a:=chkPend _ _ _ _ _ _) ?_ ?_ | fail
      · (first | omega | (unfold I64; omega) | (simp only [List.length_append,List.length_map,List.length_cons,List.length_nil,Nat.mul_one,Int.ofNat_eq_natCast] at *; omega) | (dsimp only at *; omega) | (unfold I64; dsimp only at *; omega) | (unfold I64; grind) | grind)
      · refine ⟨i + 1,?_,by omega,by omega⟩
        rw [hst hi2]
        refine wk_sel [some 0,some 1,some 2,some 7,some 8] rfl rfl ⟨?_,?_,?_,?_,?_,trivial⟩ ?_
        · (repeat' (first | exact True.intro | exact rfl | exact Or.inl rfl | exact Or.inr rfl | refine And.intro ?_ ?_ | fail))
        · (repeat' (first | exact True.intro | exact rfl | exact Or.inl rfl | exact Or.inr rfl | refine And.intro ?_ ?_ | fail))
        · (repeat' (first | exact True.intro | exact rfl | exact Or.inl rfl | exact Or.inr rfl | refine And.intro ?_ ?_ | fail))
        · show Row.row 8 _ = Row.row 8 _
          simp [Desk.src]
        · show Row.row 2 _ = Row.row 2 _
          simp [Desk.src]
        · (repeat' (first | exact True.intro | exact rfl | exact Or.inl rfl | exact Or.inr rfl | refine And.intro ?_ ?_ | fail))
  have hif : i = f.length:=by grind
  have hd1 : d.cur.length = f.length:=by rw [hs2,hif,List.take_length]
  have hdd : d = srcs f:=by rw [← hdq,hif,List.take_length]
  clear hst
  conv=>whnf
  refine join_live [1,2,4,7] (σ:=Unit) (fun _=>[]) (fun _=>[.box [.sl strV f,.sl cmdV c,.str t],.box [.nil],.box [.own 3,.own 4],.row 8 (d.behind.nodes.map nodeV),.row 2 (d.behind.cur.map portV)]) (fun _=>True) ?_
  conv=>whnf
  refine ⟨?_,fun _ _=>?_⟩
  · repeat' first | exact True.intro | refine ⟨_,_,_,LeL.refl _,?_⟩ | (refine fun (b : Bool) hb=>?_; cases b <;> (first | exact absurd hb (by decide) | exact Bool.noConfusion (show true = false from hb) | exact Bool.noConfusion (show false = true from hb) | skip)) | (refine fun (hl : _ ≤ MAXL)=>?_) | refine ⟨_,⟨rfl,rfl⟩,?_⟩ | refine And.intro (a:=chkPast _ _ _ _ _ _ _ _) ?_ ?_ | fail
    · have e : d.behind = d:=by unfold Desk.behind; rw [if_neg (by simp only [List.length_map] at *; grind)]
      refine ⟨(),?_,trivial⟩
      rw [e]
      exact (by (refine wk_sel [some 0,some 1,some 2,some 3,some 4] rfl rfl ?_ ?_ <;> (repeat' (first | exact True.intro | exact rfl | exact Or.inl rfl | exact Or.inr rfl | refine And.intro ?_ ?_ | fail))))
    have e : d.behind = ⟨d.nodes ++ [joinN 1 zCmd d.cur],[⟨d.nodes.length,0⟩]⟩:=by unfold Desk.behind; rw [if_pos (by simp only [List.length_map] at *; grind)]
    refine ⟨_,⟨Gp.Node,nodeV,[joinN 1 zCmd d.cur],LeL.refl _,rfl,rfl⟩,?_⟩
    refine ⟨_,_,⟨fun _=>rfl,?_,rfl,rfl⟩,?_⟩
    · simp only [List.length_map,List.length_cons,List.length_nil,elsOf]
      omega
    repeat' first | exact True.intro | (refine fun (hl : _ ≤ MAXL)=>?_) | refine And.intro (a:=I64 _) ?_ ?_ | refine ⟨_,⟨rfl,rfl⟩,?_⟩ | refine ⟨_,_,⟨rfl,rfl⟩,?_⟩ | refine And.intro (a:=chkPend _ _ _ _ _ _) ?_ ?_ | fail
    · simp only [List.length_append,List.length_map,List.length_cons,List.length_nil]
      unfold I64
      omega
    rw [e]
    refine ⟨(),?_,trivial⟩
    refine wk_sel [some 0,some 1,some 2,some 7,some 8] rfl rfl ⟨?_,?_,?_,?_,?_,trivial⟩ ?_
    · (repeat' (first | exact True.intro | exact rfl | exact Or.inl rfl | exact Or.inr rfl | refine And.intro ?_ ?_ | fail))
    · (repeat' (first | exact True.intro | exact rfl | exact Or.inl rfl | exact Or.inr rfl | refine And.intro ?_ ?_ | fail))
    · (repeat' (first | exact True.intro | exact rfl | exact Or.inl rfl | exact Or.inr rfl | refine And.intro ?_ ?_ | fail))
    · show Row.row 8 _ = Row.row 8 _
      simp
    · show Row.row 2 _ = Row.row 2 _
      simp [portV]
    · (repeat' (first | exact True.intro | exact rfl | exact Or.inl rfl | exact Or.inr rfl | refine And.intro ?_ ?_ | fail))
  rw [hdd]
  obtain ⟨b,hb⟩ : ∃ b,(srcs f).behind = b:=⟨_,rfl⟩
  have hpd : planDesk ⟨f,c,t⟩ w = (steps w b c).behind:=by unfold planDesk; rw [hb]
  simp only [hb] at hpl
  have hpn : planNodes ⟨f,c,t⟩ w = (steps w b c).behind.nodes ++ [sinkN t (steps w b c).behind.cur]:=by unfold planNodes; rw [hpd]
  rw [hb]
  repeat' first | (refine fun (hl : _ ≤ MAXL)=>?_) | fail
  conv=>whnf
  refine loop_live [1,2,4,7,52,53] (σ:=Nat) (fun i=>[(54,.int .i64 i)]) (fun i=>[.box [.sl strV f,.sl cmdV c,.str t],.box [.nil],.box [.own 3,.own 4],.row 8 ((steps w b (c.take i)).nodes.map nodeV),.row 2 ((steps w b (c.take i)).cur.map portV)]) (fun i=>i ≤ c.length) (fun i=>c.length - i) 0 ?_
  conv=>whnf
  refine ⟨(by (refine wk_sel [some 0,some 1,some 2,some 3,some 4] rfl rfl ?_ ?_ <;> (repeat' (first | exact True.intro | exact rfl | exact Or.inl rfl | exact Or.inr rfl | refine And.intro ?_ ?_ | fail)))),Nat.zero_le _,fun i hi=>?_⟩
  have hpi:=hpl i hi
  obtain ⟨e,heq⟩ : ∃ e,steps w b (c.take i) = e:=⟨_,rfl⟩
  have hst : ∀ h : i < c.length,steps w b (c.take (i + 1)) = e.step w c[i]:=fun h=>by rw [← heq]; exact steps_take h
  rw [heq] at hpi ⊢
  have hwi:=desk_wide hpi (by omega)
  have hpi1:=hpi.len
  have hpi2:=hpi.cur
  repeat' first | (refine fun (b : Bool) hb=>?_; cases b <;> (first | exact absurd hb (by decide) | exact Bool.noConfusion (show true = false from hb) | exact Bool.noConfusion (show false = true from hb) | skip)) | refine ⟨_,rfl,?_,rfl,?_⟩ | fail
  rotate_left
  · grind
  · have hi2 : i < c.length:=by grind
    have hst:=hst hi2
    have hci : checkCmd c[i] = 0:=firstBad_at hfb c[i] (List.getElem_mem hi2)
    have hjf : (joinFor c[i]).1 = howFor c[i]:=by unfold joinFor; rw [if_pos hci]
    refine join_live [1,2,4,7,11,52,53,54] (σ:=Unit) (fun _=>[]) (fun _=>[.box [.sl strV f,.sl cmdV c,.str t],.box [.nil],.box [.own 3,.own 4],.row 8 ((e.wide w).nodes.map nodeV),.row 2 ((e.wide w).cur.map portV),.box [.int .i64 c[i].kind,.str c[i].word,.int .i64 c[i].n]]) (fun _=>True) ?_
    conv=>whnf
    refine ⟨?_,fun _ _=>?_⟩
    · repeat' first | exact True.intro | refine ⟨_,_,_,LeL.refl _,?_⟩ | (refine fun (b : Bool) hb=>?_; cases b <;> (first | exact absurd hb (by decide) | exact Bool.noConfusion (show true = false from hb) | exact Bool.noConfusion (show false = true from hb) | skip)) | (refine fun (hl : _ ≤ MAXL)=>?_) | refine ⟨_,⟨rfl,rfl⟩,?_⟩ | refine And.intro (a:=chkPast _ _ _ _ _ _ _ _) ?_ ?_ | fail
      rotate_left
      · have e1 : e.wide w = e:=by unfold Desk.wide; rw [if_pos (by grind)]
        rw [e1]
        exact ⟨(),(by (refine wk_sel [some 0,some 1,some 2,some 3,some 4,some 5] rfl rfl ?_ ?_ <;> (repeat' (first | exact True.intro | exact rfl | exact Or.inl rfl | exact Or.inr rfl | refine And.intro ?_ ?_ | fail)))),trivial⟩
      · have e1 : e.wide w = e:=by unfold Desk.wide; rw [if_pos (by simp only [List.length_map] at *; grind)]
        rw [e1]
        exact ⟨(),(by (refine wk_sel [some 0,some 1,some 2,some 3,some 4,some 5] rfl rfl ?_ ?_ <;> (repeat' (first | exact True.intro | exact rfl | exact Or.inl rfl | exact Or.inr rfl | refine And.intro ?_ ?_ | fail)))),trivial⟩
      have e1 : e.wide w = ⟨e.nodes ++ [splitN w e.cur],ports e.nodes.length w.toNat⟩:=by unfold Desk.wide; rw [if_neg (by simp only [List.length_map] at *; grind)]
      rw [e1]
      obtain ⟨W,rfl⟩ : ∃ W : Nat,w = W:=⟨w.toNat,by omega⟩
      refine ⟨_,⟨Gp.Node,nodeV,[splitN W e.cur],LeL.refl _,rfl,rfl⟩,?_⟩
      refine ⟨_,_,⟨fun _=>rfl,?_,rfl,rfl⟩,?_⟩
      · simp only [List.length_map,List.length_cons,List.length_nil,elsOf]
        omega
      repeat' first | exact True.intro | (refine fun (hl : _ ≤ MAXL)=>?_) | refine And.intro (a:=I64 _) ?_ ?_ | refine ⟨_,⟨rfl,rfl⟩,?_⟩ | refine ⟨_,_,⟨rfl,rfl⟩,?_⟩ | refine And.intro (a:=chkPend _ _ _ _ _ _) ?_ ?_ | fail
      · simp only [List.length_append,List.length_map,List.length_cons,List.length_nil]
        unfold I64
        omega
      have hp0 : (((e.nodes.map nodeV ++ [splitN W e.cur].map nodeV).length : Nat) : Int) - 1 = e.nodes.length:=by simp
      have hn0 : e.nodes.map nodeV ++ [splitN W e.cur].map nodeV = (e.nodes ++ [splitN W e.cur]).map nodeV:=by simp
      rw [hp0,hn0]
      conv=>whnf
      refine loop_live [0,4,27] (σ:=Nat) (fun k=>[(28,.int .i64 k)]) (fun k=>[.box [.sl strV f,.sl cmdV c,.str t],.box [.nil],.box [.own 8,.own 10],.dead,.dead,.box [.int .i64 c[i].kind,.str c[i].word,.int .i64 c[i].n],.dead,.dead,.row 8 ((e.nodes ++ [splitN W e.cur]).map nodeV),.box [.int .i64 e.nodes.length,.int .i64 0],.row 2 ((ports e.nodes.length k).map portV)]) (fun k=>k ≤ W) (fun k=>W - k) 0 ?_
      conv=>whnf
      refine ⟨?_,Nat.zero_le _,fun k hk=>?_⟩
      · exact (by (refine wk_sel [some 0,some 1,some 2,some 3,some 4,some 5,some 6,some 7,some 8,some 9,none] rfl rfl ?_ ?_ <;> (repeat' (first | exact True.intro | exact rfl | exact Or.inl rfl | exact Or.inr rfl | refine And.intro ?_ ?_ | fail))))
      have hpk:=ports_succ e.nodes.length k
      have hpl3:=ports_len e.nodes.length k
      repeat' first | exact True.intro | (refine fun (b : Bool) hb=>?_; cases b <;> (first | exact absurd hb (by decide) | exact Bool.noConfusion (show true = false from hb) | exact Bool.noConfusion (show false = true from hb) | skip)) | refine ⟨_,⟨rfl,rfl⟩,?_⟩ | refine And.intro (a:=chkPast _ _ _ _ _ _ _ _) ?_ ?_ | fail
      · have hkW : k = W:=by grind
        subst hkW
        refine ⟨(),?_,trivial⟩
        exact (by (refine wk_sel [some 0,some 1,some 2,some 8,some 10,some 5] rfl rfl ?_ ?_ <;> (repeat' (first | exact True.intro | exact rfl | exact Or.inl rfl | exact Or.inr rfl | refine And.intro ?_ ?_ | fail))))
      refine ⟨_,⟨Gp.Port,portV,[⟨e.nodes.length,k⟩],LeL.refl _,rfl,rfl⟩,?_⟩
      refine ⟨_,_,⟨fun _=>rfl,?_,rfl,rfl⟩,?_⟩
      · simp only [List.length_map,List.length_cons,List.length_nil,elsOf]
        omega
      repeat' first | exact True.intro | refine And.intro (a:=I64 _) ?_ ?_ | refine ⟨_,⟨rfl,rfl⟩,?_⟩ | refine ⟨_,_,⟨rfl,rfl⟩,?_⟩ | refine And.intro (a:=chkPend _ _ _ _ _ _) ?_ ?_ | fail
      · (first | omega | (unfold I64; omega) | (simp only [List.length_append,List.length_map,List.length_cons,List.length_nil,Nat.mul_one,Int.ofNat_eq_natCast] at *; omega) | (dsimp only at *; omega) | (unfold I64; dsimp only at *; omega) | (unfold I64; grind) | grind)
      · refine ⟨k + 1,?_,by grind,by grind⟩
        rw [hpk]
        refine wk_sel [some 0,some 1,some 2,some 3,some 4,some 5,some 6,some 7,some 8,some 9,some 11] rfl rfl ⟨?_,?_,?_,?_,?_,?_,?_,?_,?_,?_,?_,trivial⟩ ?_
        all_goals try ((repeat' (first | exact True.intro | exact rfl | exact Or.inl rfl | exact Or.inr rfl | refine And.intro ?_ ?_ | fail)); done)
        show Row.row 2 _ = Row.row 2 _
        rw [List.map_append]
    repeat' first | (refine fun (hl : _ ≤ MAXL)=>?_) | fail
    conv=>whnf
    obtain ⟨b',hb'⟩ : ∃ b',e.wide w = b':=⟨_,rfl⟩
    rw [hb'] at hwi
    rw [hb']
    refine loop_live [0,3,10,11] (σ:=Nat × Desk) (fun s=>[(4,.own 8),(12,.int .i64 s.1)]) (fun s=>[.box [.sl strV f,.sl cmdV c,.str t],.box [.nil],.box [.own 7,.own 4],.dead,.row 2 (b'.cur.map portV),.box [.int .i64 c[i].kind,.str c[i].word,.int .i64 c[i].n],.box [.int .i64 c[i].kind,.str c[i].word,.int .i64 c[i].n],.row 8 (s.2.nodes.map nodeV),.row 2 (s.2.cur.map portV)]) (fun s=>s.1 ≤ b'.cur.length ∧ s.2 = ⟨b'.nodes ++ ((b'.cur.take s.1).map fun p=>workN c[i] [p]),outs b'.nodes.length s.1⟩) (fun s=>b'.cur.length - s.1) (0,⟨b'.nodes,[]⟩) ?_
    conv=>whnf
    refine ⟨?_,⟨Nat.zero_le _,by simp [outs]⟩,fun s hs=>?_⟩
    · exact (by (refine wk_sel [some 0,some 1,some 2,some 3,some 4,some 5,some 6,some 3,none] rfl rfl ?_ ?_ <;> (repeat' (first | exact True.intro | exact rfl | exact Or.inl rfl | exact Or.inr rfl | refine And.intro ?_ ?_ | fail))))
    obtain ⟨j,q⟩:=s
    obtain ⟨hj,hq⟩:=hs
    dsimp only at hj hq
    have hqn : q.nodes.length = b'.nodes.length + j:=by
      rw [hq]
      simp
      omega
    have hqc : q.cur.length = j:=by
      rw [hq]
      simp [outs_len]
    repeat' first | (refine fun (b : Bool) hb=>?_; cases b <;> (first | exact absurd hb (by decide) | exact Bool.noConfusion (show true = false from hb) | exact Bool.noConfusion (show false = true from hb) | skip)) | refine ⟨rfl,?_⟩ | fail
    rotate_left
    · have hj2 : j < b'.cur.length:=by simp only [List.length_map] at *; grind
      refine ⟨j,rfl,by simpa using hj2,?_⟩
      have hg : (List.map portV b'.cur)[j]? = some (portV b'.cur[j]):=by rw [List.getElem?_map,List.getElem?_eq_getElem hj2]; rfl
      conv=>whnf
      refine ⟨portV b'.cur[j],hg,?_⟩
      skip
      refine ⟨Gp.Port,portV,[b'.cur[j]],LeL.refl _,?_⟩
      repeat' first | exact True.intro | refine ⟨_,⟨rfl,rfl⟩,?_⟩ | refine And.intro (a:=chkPast _ _ _ _ _ _ _ _) ?_ ?_ | fail
      refine ⟨_,⟨Gp.Node,nodeV,[workN c[i] [b'.cur[j]]],LeL.refl _,rfl,rfl⟩,?_⟩
      refine ⟨_,_,⟨fun _=>rfl,?_,rfl,rfl⟩,?_⟩
      · simp only [List.length_map,List.length_cons,List.length_nil,elsOf]
        omega
      repeat' first | exact True.intro | (refine fun (hl : _ ≤ MAXL)=>?_) | refine And.intro (a:=I64 _) ?_ ?_ | refine And.intro (a:=_ ≤ 140737488355328) ?_ ?_ | refine ⟨_,⟨rfl,rfl⟩,?_⟩ | refine ⟨_,_,⟨rfl,rfl⟩,?_⟩ | refine And.intro (a:=chkPend _ _ _ _ _ _) ?_ ?_ | refine ⟨rfl,?_⟩ | fail
      all_goals try ((first | omega | (unfold I64; omega) | (simp only [List.length_append,List.length_map,List.length_cons,List.length_nil,Nat.mul_one,Int.ofNat_eq_natCast] at *; omega) | (dsimp only at *; omega) | (unfold I64; dsimp only at *; omega) | (unfold I64; grind) | grind); done)
      refine ⟨(j + 1,⟨q.nodes ++ [workN c[i] [b'.cur[j]]],q.cur ++ [⟨((q.nodes.map nodeV ++ [workN c[i] [b'.cur[j]]].map nodeV).length : Int) - 1,0⟩]⟩),?_,⟨?_,?_⟩,?_⟩
      rotate_left
      · exact hj2
      · rw [hq]
        have ep : (((b'.nodes ++ List.map (fun p=>workN c[i] [p]) (List.take j b'.cur)).map nodeV ++ [workN c[i] [b'.cur[j]]].map nodeV).length : Int) - 1 = (b'.nodes.length : Int) + (j : Int):=by
          simp only [List.length_append,List.length_map,List.length_take,List.length_cons,List.length_nil]
          omega
        dsimp only
        rw [ep]
        simp only [outs_succ,List.take_succ_eq_append_getElem hj2,List.map_append,List.append_assoc,List.map_cons,List.map_nil]
      · show b'.cur.length - (j + 1) < b'.cur.length - j
        omega
      have em1 : (q.nodes ++ [workN c[i] [b'.cur[j]]]).map nodeV = q.nodes.map nodeV ++ [workN c[i] [b'.cur[j]]].map nodeV:=List.map_append
      have em2 : ∀ x : Port,(q.cur ++ [x]).map portV = q.cur.map portV ++ [x].map portV:=fun x=>List.map_append
      dsimp only
      rw [em1,em2]
      exact (by (refine wk_sel [some 0,some 1,some 2,some 3,some 4,some 5,some 6,some 13,some 15] rfl rfl ?_ ?_ <;> (repeat' (first | exact True.intro | exact rfl | exact Or.inl rfl | exact Or.inr rfl | refine And.intro ?_ ?_ | fail))))
    have hjl : j = b'.cur.length:=by simp only [List.length_map] at *; grind
    have hwk : b'.work c[i] = q:=by rw [hq,hjl,List.take_length]; rfl
    have hst:=hst
    have hek : each ⟨c[i].kind,c[i].word,c[i].n⟩ = each c[i]:=rfl
    skip
    refine ⟨_,_,_,rfl,?_⟩
    repeat' first | (refine fun (b : Bool) hb=>?_; cases b <;> (first | exact absurd hb (by decide) | exact Bool.noConfusion (show true = false from hb) | exact Bool.noConfusion (show false = true from hb) | skip)) | refine And.intro (a:=I64 _) ?_ ?_ | fail
    all_goals try ((first | omega | (unfold I64; omega) | (simp only [List.length_append,List.length_map,List.length_cons,List.length_nil,Nat.mul_one,Int.ofNat_eq_natCast] at *; omega) | (dsimp only at *; omega) | (unfold I64; dsimp only at *; omega) | (unfold I64; grind) | grind); done)
    rotate_left
    · refine ⟨i + 1,?_,hi2,by show c.length - (i + 1) < c.length - i; omega⟩
      have e2 : e.step w c[i] = q:=by unfold Desk.step; rw [hb',hwk,if_pos ?_]; first | exact .inl (by assumption) | exact .inr (of_decide_eq_true (by assumption))
      rw [hst,e2]
      exact (by (refine wk_sel [some 0,some 1,some 2,some 7,some 8] rfl rfl ?_ ?_ <;> (repeat' (first | exact True.intro | exact rfl | exact Or.inl rfl | exact Or.inr rfl | refine And.intro ?_ ?_ | fail))))
    · refine ⟨i + 1,?_,hi2,by show c.length - (i + 1) < c.length - i; omega⟩
      have e2 : e.step w c[i] = q:=by unfold Desk.step; rw [hb',hwk,if_pos ?_]; first | exact .inl (by assumption) | exact .inr (of_decide_eq_true (by assumption))
      rw [hst,e2]
      exact (by (refine wk_sel [some 0,some 1,some 2,some 7,some 8] rfl rfl ?_ ?_ <;> (repeat' (first | exact True.intro | exact rfl | exact Or.inl rfl | exact Or.inr rfl | refine And.intro ?_ ?_ | fail))))
    refine ⟨_,_,_,rfl,?_⟩
    repeat' first | exact True.intro | refine ⟨_,_,_,LeL.refl _,?_⟩ | (refine fun (b : Bool) hb=>?_; cases b <;> (first | exact absurd hb (by decide) | exact Bool.noConfusion (show true = false from hb) | exact Bool.noConfusion (show false = true from hb) | skip)) | refine ⟨_,⟨rfl,rfl⟩,?_⟩ | refine And.intro (a:=chkPast _ _ _ _ _ _ _ _) ?_ ?_ | fail
    · refine ⟨_,⟨Gp.Node,nodeV,[joinN (joinFor c[i]).1 zCmd q.cur],LeL.refl _,rfl,rfl⟩,?_⟩
      refine ⟨_,_,⟨fun _=>rfl,?_,rfl,rfl⟩,?_⟩
      · simp only [List.length_map,List.length_cons,List.length_nil,elsOf]
        omega
      repeat' first | exact True.intro | (refine fun (hl : _ ≤ MAXL)=>?_) | refine And.intro (a:=I64 _) ?_ ?_ | refine ⟨_,⟨rfl,rfl⟩,?_⟩ | refine ⟨_,_,⟨rfl,rfl⟩,?_⟩ | refine And.intro (a:=chkPend _ _ _ _ _ _) ?_ ?_ | fail
      all_goals try ((first | omega | (unfold I64; omega) | (simp only [List.length_append,List.length_map,List.length_cons,List.length_nil,Nat.mul_one,Int.ofNat_eq_natCast] at *; omega) | (dsimp only at *; omega) | (unfold I64; dsimp only at *; omega) | (unfold I64; grind) | grind); done)
      have hne : ¬ (each c[i] = true ∨ w = 1):=by
        rintro (h | h)
        · exact absurd ((show each c[i] = false by assumption).symm.trans h) (by decide)
        · exact of_decide_eq_false (by assumption) h
      have h4 : ¬ howFor c[i] = 4:=by
        rw [← hjf]
        exact of_decide_eq_false (p:=(joinFor c[i]).1 = 4) (by assumption)
      have e2 : e.step w c[i] = ⟨q.nodes ++ [joinN (joinFor c[i]).1 zCmd q.cur],[⟨((q.nodes.map nodeV ++ [joinN (joinFor c[i]).1 zCmd q.cur].map nodeV).length : Int) - 1,0⟩]⟩:=by
        unfold Desk.step Desk.fin
        rw [hb',hwk,if_neg hne,if_neg h4,hjf]
        simp
      refine ⟨i + 1,?_,hi2,by show c.length - (i + 1) < c.length - i; omega⟩
      rw [hst,e2]
      have em1 : (q.nodes ++ [joinN (joinFor c[i]).1 zCmd q.cur]).map nodeV = q.nodes.map nodeV ++ [joinN (joinFor c[i]).1 zCmd q.cur].map nodeV:=List.map_append
      dsimp only
      rw [em1]
      exact (by (refine wk_sel [some 0,some 1,some 2,some 12,some 13] rfl rfl ?_ ?_ <;> (repeat' (first | exact True.intro | exact rfl | exact Or.inl rfl | exact Or.inr rfl | refine And.intro ?_ ?_ | fail))))
    · refine ⟨_,⟨Gp.Node,nodeV,[joinN (joinFor c[i]).1 c[i] q.cur],LeL.refl _,rfl,rfl⟩,?_⟩
      refine ⟨_,_,⟨fun _=>rfl,?_,rfl,rfl⟩,?_⟩
      · simp only [List.length_map,List.length_cons,List.length_nil,elsOf]
        omega
      repeat' first | exact True.intro | (refine fun (hl : _ ≤ MAXL)=>?_) | refine And.intro (a:=I64 _) ?_ ?_ | refine ⟨_,⟨rfl,rfl⟩,?_⟩ | refine ⟨_,_,⟨rfl,rfl⟩,?_⟩ | refine And.intro (a:=chkPend _ _ _ _ _ _) ?_ ?_ | fail
      all_goals try ((first | omega | (unfold I64; omega) | (simp only [List.length_append,List.length_map,List.length_cons,List.length_nil,Nat.mul_one,Int.ofNat_eq_natCast] at *; omega) | (dsimp only at *; omega) | (unfold I64; dsimp only at *; omega) | (unfold I64; grind) | grind); done)
      have hne : ¬ (each c[i] = true ∨ w = 1):=by
        rintro (h | h)
        · exact absurd ((show each c[i] = false by assumption).symm.trans h) (by decide)
        · exact of_decide_eq_false (by assumption) h
      have h4 : howFor c[i] = 4:=by
        rw [← hjf]
        exact of_decide_eq_true (p:=(joinFor c[i]).1 = 4) (by assumption)
      have e2 : e.step w c[i] = ⟨q.nodes ++ [joinN (joinFor c[i]).1 c[i] q.cur],[⟨((q.nodes.map nodeV ++ [joinN (joinFor c[i]).1 c[i] q.cur].map nodeV).length : Int) - 1,0⟩]⟩:=by
        unfold Desk.step Desk.fin
        rw [hb',hwk,if_neg hne,if_pos h4,hjf]
        simp
      refine ⟨i + 1,?_,hi2,by show c.length - (i + 1) < c.length - i; omega⟩
      rw [hst,e2]
      have em1 : (q.nodes ++ [joinN (joinFor c[i]).1 c[i] q.cur]).map nodeV = q.nodes.map nodeV ++ [joinN (joinFor c[i]).1 c[i] q.cur].map nodeV:=List.map_append
      dsimp only
      rw [em1]
      exact (by (refine wk_sel [some 0,some 1,some 2,some 12,some 13] rfl rfl ?_ ?_ <;> (repeat' (first | exact True.intro | exact rfl | exact Or.inl rfl | exact Or.inr rfl | refine And.intro ?_ ?_ | fail))))
  have hil : i = c.length:=by grind
  have hel : steps w b c = e:=by rw [← heq,hil,List.take_length]
  conv=>whnf
  refine join_live [2,4,7] (σ:=Unit) (fun _=>[]) (fun _=>[.box [.sl strV f,.sl cmdV c,.str t],.box [.nil],.box [.own 3,.own 4],.row 8 (e.behind.nodes.map nodeV),.row 2 (e.behind.cur.map portV)]) (fun _=>True) ?_
  conv=>whnf
  refine ⟨?_,fun _ _=>?_⟩
  · repeat' first | exact True.intro | refine ⟨_,_,_,LeL.refl _,?_⟩ | (refine fun (b : Bool) hb=>?_; cases b <;> (first | exact absurd hb (by decide) | exact Bool.noConfusion (show true = false from hb) | exact Bool.noConfusion (show false = true from hb) | skip)) | (refine fun (hl : _ ≤ MAXL)=>?_) | refine ⟨_,⟨rfl,rfl⟩,?_⟩ | refine And.intro (a:=chkPast _ _ _ _ _ _ _ _) ?_ ?_ | fail
    · have e2 : e.behind = e:=by unfold Desk.behind; rw [if_neg (by simp only [List.length_map] at *; grind)]
      refine ⟨(),?_,trivial⟩
      rw [e2]
      exact (by (refine wk_sel [some 0,some 1,some 2,some 3,some 4] rfl rfl ?_ ?_ <;> (repeat' (first | exact True.intro | exact rfl | exact Or.inl rfl | exact Or.inr rfl | refine And.intro ?_ ?_ | fail))))
    have e2 : e.behind = ⟨e.nodes ++ [joinN 1 zCmd e.cur],[⟨e.nodes.length,0⟩]⟩:=by unfold Desk.behind; rw [if_pos (by simp only [List.length_map] at *; grind)]
    refine ⟨_,⟨Gp.Node,nodeV,[joinN 1 zCmd e.cur],LeL.refl _,rfl,rfl⟩,?_⟩
    refine ⟨_,_,⟨fun _=>rfl,?_,rfl,rfl⟩,?_⟩
    · simp only [List.length_map,List.length_cons,List.length_nil,elsOf]
      omega
    repeat' first | exact True.intro | (refine fun (hl : _ ≤ MAXL)=>?_) | refine And.intro (a:=I64 _) ?_ ?_ | refine ⟨_,⟨rfl,rfl⟩,?_⟩ | refine ⟨_,_,⟨rfl,rfl⟩,?_⟩ | refine And.intro (a:=chkPend _ _ _ _ _ _) ?_ ?_ | fail
    · simp only [List.length_append,List.length_map,List.length_cons,List.length_nil]
      unfold I64
      omega
    rw [e2]
    refine ⟨(),?_,trivial⟩
    refine wk_sel [some 0,some 1,some 2,some 7,some 8] rfl rfl ⟨?_,?_,?_,?_,?_,trivial⟩ ?_
    · (repeat' (first | exact True.intro | exact rfl | exact Or.inl rfl | exact Or.inr rfl | refine And.intro ?_ ?_ | fail))
    · (repeat' (first | exact True.intro | exact rfl | exact Or.inl rfl | exact Or.inr rfl | refine And.intro ?_ ?_ | fail))
    · (repeat' (first | exact True.intro | exact rfl | exact Or.inl rfl | exact Or.inr rfl | refine And.intro ?_ ?_ | fail))
    · show Row.row 8 _ = Row.row 8 _
      simp
    · show Row.row 2 _ = Row.row 2 _
      simp [portV]
    · (repeat' (first | exact True.intro | exact rfl | exact Or.inl rfl | exact Or.inr rfl | refine And.intro ?_ ?_ | fail))
  obtain ⟨z,hz⟩ : ∃ z,e.behind = z:=⟨_,rfl⟩
  have hzl : z.nodes.length ≤ 60 ∧ z.cur.length ≤ 60:=by
    rw [← hz]
    unfold Desk.behind
    split
    · simp; omega
    · omega
  rw [hel,hz] at hpn
  rw [hz]
  repeat' first | exact True.intro | refine ⟨_,⟨rfl,rfl⟩,?_⟩ | refine And.intro (a:=chkPast _ _ _ _ _ _ _ _) ?_ ?_ | fail
  apply Exists.intro
  apply Exists.intro
  apply And.intro
  · repeat' first | exact True.intro | refine ⟨_,_,_,LeL.refl _,?_⟩ | refine ⟨_,⟨rfl,rfl⟩,?_⟩ | refine And.intro (a:=chkPast _ _ _ _ _ _ _ _) ?_ ?_ | fail
    refine ⟨_,⟨Gp.Node,nodeV,[sinkN t z.cur],LeL.refl _,rfl,rfl⟩,?_⟩
    refine ⟨_,_,⟨fun _=>rfl,?_,rfl,rfl⟩,?_⟩
    · simp only [List.length_map,List.length_cons,List.length_nil,elsOf]
      omega
    repeat' first | exact True.intro | (refine fun (hl : _ ≤ MAXL)=>?_) | refine And.intro (a:=I64 _) ?_ ?_ | refine ⟨_,⟨rfl,rfl⟩,?_⟩ | refine ⟨_,_,⟨rfl,rfl⟩,?_⟩ | refine And.intro (a:=chkPend _ _ _ _ _ _) ?_ ?_ | refine ⟨rfl,?_⟩ | fail
    · simp only [List.length_append,List.length_map,List.length_cons,List.length_nil]
      unfold I64
      omega
    · exact rfl
  repeat' first | exact True.intro | refine And.intro (a:=chkPend _ _ _ _ _ _) ?_ ?_ | fail
  refine ⟨Gp.Node,nodeV,z.nodes ++ [sinkN t z.cur],by rw [List.map_append]; exact LeL.refl _,?_⟩
  skip
  exact hK _ (by rw [hpn])
end Gv
namespace Gv
variable [Glob] [Laid] [Nums] [Errs]
theorem dLine_ca : callable Tryz.prog 14 = true:=by kernel_rfl
def dLine_S : Spec:=fun args K=>∃ (F : List FileS) (f : List Bs) (c : List Cmd) (t : Bs) (w rm : Int) (ps : List Int),args = [.sl fileV F,.agg [.sl strV f,.sl cmdV c,.str t],.int .i64 w,.int .i64 rm,.sl intV ps] ∧ K (.tup [.sl byteV (driveS F ⟨f,c,t⟩ w rm ps.length).1,.int .i64 (driveS F ⟨f,c,t⟩ w rm ps.length).2])
noncomputable def dLine_lib : List (Nat × Spec):=[(28,plan_S),(22,gather_S),(29,newX_S),(30,runX_S),(31,finX_S)]
noncomputable def dLine_fns : List (Nat × FnI):=[]
noncomputable def dLine_prims : List (Nat × PSpec):=[]
theorem dLine_E : EnvOK ⟨Tryz.prog,tys,dLine_lib,dLine_fns,dLine_prims,[]⟩:=env_ok mixed0 tys0 (.cons plan_ca plan_ok (.cons gather_ca gather_ok (.cons newX_ca newX_ok (.cons runX_ca runX_ok (.cons finX_ca finX_ok .nil))))) .nil .nil rfl
set_option maxHeartbeats 16000000 in
theorem dLine_ok : Pure Tryz.prog 14 dLine_S:=by
  refine pure_by dLine_E 6 (fi:={fn:=Tryz.f14,hooks:=[],draws:=[]}) ⟨Tryz.func14,by kernel_rfl,by kernel_rfl⟩ ?_
  rintro _ K ⟨F,f,c,t,w,rm,ps,rfl,hK⟩
  replace hK : ∀ r,r = .tup [.sl byteV (driveS F ⟨f,c,t⟩ w rm ps.length).1,.int .i64 (driveS F ⟨f,c,t⟩ w rm ps.length).2] → K r:=fun r h=>h ▸ hK
  obtain ⟨r,hr⟩ : ∃ r,plan ⟨f,c,t⟩ w = r:=⟨_,rfl⟩
  obtain ⟨s,hs⟩ : ∃ s,newP r.1 F rm = s:=⟨_,rfl⟩
  skip
  refine ⟨f,c,t,w,rfl,?_⟩
  rw [hr]
  repeat' first | (refine fun (b : Bool) hb=>?_; cases b <;> (first | exact absurd hb (by decide) | exact Bool.noConfusion (show true = false from hb) | exact Bool.noConfusion (show false = true from hb) | skip)) | fail
  rotate_left
  · have h0 : r.2 ≠ 0:=by simpa using ‹(!decide (r.2 = 0)) = true›
    conv=>whnf
    skip
    refine ⟨UInt8,byteV,?_⟩
    refine hK _ ?_
    unfold driveS
    rw [hr,if_pos h0]
  have hr0 : r.2 = 0:=by simpa using ‹(!decide (r.2 = 0)) = false›
  obtain ⟨hc,h5,rfl⟩:=planD_ok hr hr0
  dsimp only at hs
  conv=>whnf
  skip
  refine ⟨F,f,rfl,?_⟩
  obtain ⟨g,hg⟩ : ∃ g,gatherS F f = g:=⟨_,rfl⟩
  rw [hg]
  repeat' first | (refine fun (b : Bool) hb=>?_; cases b <;> (first | exact absurd hb (by decide) | exact Bool.noConfusion (show true = false from hb) | exact Bool.noConfusion (show false = true from hb) | skip)) | fail
  rotate_left
  · have h0 : g.2 ≠ 0:=by simpa using ‹(!decide (g.2 = 0)) = true›
    conv=>whnf
    skip
    refine ⟨UInt8,byteV,?_⟩
    refine hK _ ?_
    unfold driveS
    rw [hr,if_neg (fun h=>h rfl),hg,if_pos h0]
  have h0 : g.2 = 0:=by simpa using ‹(!decide (g.2 = 0)) = false›
  have hgv:=gather_val (F:=F) (f:=f) (by rw [hg]; exact h0)
  conv=>whnf
  skip
  refine ⟨planNodes ⟨f,c,t⟩ w,F,rm,rfl,?_⟩
  rw [hs]
  repeat' first | (refine fun (b : Bool) hb=>?_; cases b <;> (first | exact absurd hb (by decide) | exact Bool.noConfusion (show true = false from hb) | exact Bool.noConfusion (show false = true from hb) | skip)) | fail
  rotate_left
  · have hs0 : s.2 ≠ 0:=by simpa using ‹(!decide (s.2 = 0)) = true›
    have hx : (rm < 1 ∨ 1000 < rm) ∧ s.2 = 3:=by
      unfold newP at hs
      rw [if_neg (fun h=>h (plan_gf hc h5).1),if_neg (fun h=>h hgv.1)] at hs
      split at hs
      · rename_i h; exact ⟨h,by rw [← hs]⟩
      · rw [← hs] at hs0; exact absurd rfl hs0
    conv=>whnf
    skip
    refine ⟨UInt8,byteV,?_⟩
    refine hK _ ?_
    unfold driveS
    rw [hr,if_neg (fun h=>h rfl),hg,if_neg (fun h=>h h0),if_pos hx.1,hx.2]
  have hs0 : s.2 = 0:=by simpa using ‹(!decide (s.2 = 0)) = false›
  obtain ⟨hgr,hf,h1,rfl⟩:=newD_ok hs hs0
  have G:=goesD (f:=F) (rm:=rm) hgr (plan_gf hc h5).2 hf h1
  rw [eval_plan hc h5 (F:=F) (by rw [hg]; exact h0),hg] at G
  dsimp only at G
  generalize hv : put (doLines c (linesOf g.1)) = v at G
  have hdr : driveS F ⟨f,c,t⟩ w rm ps.length = if 40000 < ps.length then ([],2) else (v,0):=by
    unfold driveS
    rw [hr,if_neg (fun h=>h rfl),hg,if_neg (fun h=>h h0),if_neg (by omega),hv]
  rw [hdr] at hK
  generalize hN : planNodes ⟨f,c,t⟩ w = N at *
  have c0:=G.ck _ G.fresh
  conv=>whnf
  skip
  refine ⟨freshM N F rm,ps,Ok F N rm,rfl,fun _=>⟨right_copy (right_of c0),G.fresh,G.steps⟩,?_⟩
  unfold runP
  rw [if_neg (by rw [c0]; decide)]
  by_cases h4 : 40000 < ps.length
  · rw [if_pos h4]
    rw [if_pos h4] at hK
    repeat' first | (refine fun (b : Bool) hb=>?_; cases b <;> (first | exact absurd hb (by decide) | exact Bool.noConfusion (show true = false from hb) | exact Bool.noConfusion (show false = true from hb) | skip)) | fail
    all_goals (try (conv=>whnf))
    all_goals (skip)
    all_goals (refine ⟨UInt8,byteV,?_⟩)
    all_goals (exact hK _ rfl)
  rw [if_neg h4]
  rw [if_neg h4] at hK
  have hO:=run_ok (gf_of hgr) ps (freshM N F rm) [] G.fresh
  generalize hM : (runGo ps (freshM N F rm) []).1 = M at hO
  have c1:=G.ck _ hO
  obtain ⟨n,M2,f1,f2,f3,f4⟩:=G.fin _ hO
  repeat' first | (refine fun (b : Bool) hb=>?_; cases b <;> (first | exact absurd hb (by decide) | exact Bool.noConfusion (show true = false from hb) | exact Bool.noConfusion (show false = true from hb) | skip)) | fail
  conv=>whnf
  skip
  refine ⟨M,n,(M2,0),Ok F N rm,rfl,⟨fun _=>⟨right_copy (right_of c1),hO,G.steps,f1⟩,fun h=>absurd c1 h⟩,?_⟩
  repeat' first | (refine fun (b : Bool) hb=>?_; cases b <;> (first | exact absurd hb (by decide) | exact Bool.noConfusion (show true = false from hb) | exact Bool.noConfusion (show false = true from hb) | skip)) | fail
  conv=>whnf
  skip
  refine hK _ ?_
  show _ = V.tup [.sl byteV v,.int .i64 0]
  rw [← f4]
end Gv
namespace Gv
variable [Glob] [Laid] [Nums] [Errs]
theorem dRun_ca : callable Tryz.prog 5 = true:=by kernel_rfl
def dRun_S : Spec:=fun args K=>∃ (F : List FileS) (s : List LineS) (wd rm : Int) (ps : List Int),args = [.sl fileV F,.sl lineV s,.int .i64 wd,.int .i64 rm,.sl intV ps] ∧ K (.tup [.sl fileV (runL (fun F x=>driveS F x wd rm ps.length) F s).1,.int .i64 (runL (fun F x=>driveS F x wd rm ps.length) F s).2])
noncomputable def dRun_lib : List (Nat × Spec):=[(9,cfiles_S),(10,scheckS_S),(11,copyF_S),(14,dLine_S),(13,putF_S)]
noncomputable def dRun_fns : List (Nat × FnI):=[]
noncomputable def dRun_prims : List (Nat × PSpec):=[]
theorem dRun_E : EnvOK ⟨Tryz.prog,tys,dRun_lib,dRun_fns,dRun_prims,[]⟩:=env_ok mixed0 tys0 (.cons cfiles_ca cfiles_ok (.cons scheckS_ca scheckS_ok (.cons copyF_ca copyF_ok (.cons dLine_ca dLine_ok (.cons putF_ca putF_ok .nil))))) .nil .nil rfl
set_option maxHeartbeats 8000000 in
theorem dRun_ok : Pure Tryz.prog 5 dRun_S:=by
  refine pure_by dRun_E 6 (fi:={fn:=Tryz.f5,hooks:=[],draws:=[]}) ⟨Tryz.func5,by kernel_rfl,by kernel_rfl⟩ ?_
  rintro _ K ⟨F,s,wd,rm,ps,rfl,hK⟩
  replace hK : ∀ r,r = .tup [.sl fileV (runL (fun F x=>driveS F x wd rm ps.length) F s).1,.int .i64 (runL (fun F x=>driveS F x wd rm ps.length) F s).2] → K r:=fun r h=>h ▸ hK
  obtain ⟨L,hL⟩ : ∃ L : List FileS → LineS → Bs × Int,L = fun F x=>driveS F x wd rm ps.length:=⟨_,rfl⟩
  rw [← hL] at hK
  refine ⟨F,rfl,?_⟩
  repeat' first | (refine fun (b : Bool) hb=>?_; cases b <;> (first | exact absurd hb (by decide) | exact Bool.noConfusion (show true = false from hb) | exact Bool.noConfusion (show false = true from hb) | skip)) | fail
  rotate_left
  · have h0 : checkFiles F ≠ 0:=by simpa using ‹(!decide (checkFiles F = 0)) = true›
    refine ⟨FileS,fileV,?_⟩
    refine hK _ ?_
    unfold runL
    rw [if_pos h0]
  have h0 : checkFiles F = 0:=by simpa using ‹(!decide (checkFiles F = 0)) = false›
  obtain ⟨h12,hall⟩:=checkFiles_ok h0
  conv=>whnf
  refine ⟨s,rfl,?_⟩
  repeat' first | (refine fun (b : Bool) hb=>?_; cases b <;> (first | exact absurd hb (by decide) | exact Bool.noConfusion (show true = false from hb) | exact Bool.noConfusion (show false = true from hb) | skip)) | fail
  rotate_left
  · have h1 : checkS s ≠ 0:=by simpa using ‹(!decide (checkS s = 0)) = true›
    refine ⟨FileS,fileV,?_⟩
    refine hK _ ?_
    unfold runL
    rw [if_neg (by rw [h0]; decide),if_pos h1]
  have h1 : checkS s = 0:=by simpa using ‹(!decide (checkS s = 0)) = false›
  have hone : ∀ r : List FileS × Int,runGoL L F s = r → K (.tup [.sl fileV r.1,.int .i64 r.2]):=fun r h=>hK _ (by unfold runL; rw [if_neg (by rw [h0]; decide),if_neg (by rw [h1]; decide),h])
  conv=>whnf
  skip
  refine ⟨F,rfl,⟨by omega,fun f hf=>by have:=(hall f hf).2; omega⟩,?_⟩
  conv=>whnf
  repeat' first | (refine fun (hl : _ ≤ MAXL)=>?_) | fail
  conv=>whnf
  refine loop_live [1,2,3,4,31] (σ:=Nat × List FileS) (fun t=>[(32,.int .i64 t.1),(0,.sl fileV t.2)]) (fun _=>[]) (fun t=>t.1 ≤ s.length ∧ runGoL L t.2 (s.drop t.1) = runGoL L F s) (fun t=>s.length - t.1) (0,F) ?_
  conv=>whnf
  refine ⟨(by (refine wk_auto ?_; refine Sel4.mk rfl rfl ?_ ?_ <;> (repeat' (first | exact True.intro | exact rfl | exact Or.inl rfl | exact Or.inr rfl | refine And.intro ?_ ?_ | fail)))),⟨Nat.zero_le _,rfl⟩,fun t ht=>?_⟩
  obtain ⟨i,G⟩:=t
  obtain ⟨hi,hg⟩:=ht
  dsimp only at hi hg
  repeat' first | (refine fun (b : Bool) hb=>?_; cases b <;> (first | exact absurd hb (by decide) | exact Bool.noConfusion (show true = false from hb) | exact Bool.noConfusion (show false = true from hb) | skip)) | refine ⟨_,rfl,?_,rfl,?_⟩ | fail
  · have hge : ¬ (i : Int) < (s.length : Int):=of_decide_eq_false (by assumption)
    have e : s.drop i = []:=List.drop_eq_nil_of_le (by omega)
    rw [e] at hg
    conv=>whnf
    skip
    exact hone _ hg.symm
  · have h:=of_decide_eq_true (by assumption : decide ((i : Int) < (s.length : Int)) = true)
    show i < s.length
    omega
  have hlt : i < s.length:=by
    have h:=of_decide_eq_true (by assumption : decide ((i : Int) < (s.length : Int)) = true)
    omega
  rw [List.drop_eq_getElem_cons hlt,runGoL] at hg
  conv=>whnf
  skip
  refine ⟨G,s[i].frm,s[i].cmds,s[i].to,wd,rm,ps,rfl,?_⟩
  rw [show (⟨s[i].frm,s[i].cmds,s[i].to⟩ : LineS) = s[i] from rfl,show driveS G s[i] wd rm ps.length = L G s[i] by rw [hL]]
  repeat' first | (refine fun (b : Bool) hb=>?_; cases b <;> (first | exact absurd hb (by decide) | exact Bool.noConfusion (show true = false from hb) | exact Bool.noConfusion (show false = true from hb) | skip)) | fail
  rotate_left
  · have h2 : (L G s[i]).2 ≠ 0:=by simpa using ‹(!decide ((L G s[i]).2 = 0)) = true›
    rw [if_pos h2] at hg
    conv=>whnf
    skip
    refine ⟨FileS,fileV,?_⟩
    exact hone _ hg.symm
  have h2 : (L G s[i]).2 = 0:=by simpa using ‹(!decide ((L G s[i]).2 = 0)) = false›
  rw [if_neg (by rw [h2]; decide)] at hg
  conv=>whnf
  skip
  refine ⟨G,s[i].to,(L G s[i]).1,rfl,?_⟩
  repeat' first | (refine fun (b : Bool) hb=>?_; cases b <;> (first | exact absurd hb (by decide) | exact Bool.noConfusion (show true = false from hb) | exact Bool.noConfusion (show false = true from hb) | skip)) | refine And.intro (a:=I64 _) ?_ ?_ | fail
  · have hm : s.length ≤ MAXL:=by assumption
    unfold I64; unfold MAXL at hm
    dsimp only
    omega
  · have h3 : (putS G s[i].to (L G s[i]).1).2 = 0:=by simpa using ‹(!decide ((putS G s[i].to (L G s[i]).1).2 = 0)) = false›
    rw [if_neg (by rw [h3]; decide)] at hg
    conv=>whnf
    skip
    refine ⟨(i + 1,(putS G s[i].to (L G s[i]).1).1),(by (refine wk_auto ?_; refine Sel4.mk rfl rfl ?_ ?_ <;> (repeat' (first | exact True.intro | exact rfl | exact Or.inl rfl | exact Or.inr rfl | refine And.intro ?_ ?_ | fail)))),⟨hlt,hg⟩,by show s.length - (i + 1) < s.length - i; omega⟩
  · have h3 : (putS G s[i].to (L G s[i]).1).2 ≠ 0:=by simpa using ‹(!decide ((putS G s[i].to (L G s[i]).1).2 = 0)) = true›
    rw [if_pos h3] at hg
    conv=>whnf
    skip
    refine ⟨FileS,fileV,?_⟩
    exact hone _ hg.symm
end Gv
namespace Gv
variable [Glob] [Laid] [Nums] [Errs]
def drA : FileS:=⟨[97],[98,32,120,10,97,32,121,10,99,32,122]⟩
def drC : FileS:=⟨[99],[97,10,98,10,99,10]⟩
def drD : FileS:=⟨[100],[51,10]⟩
def drX : LineS:=⟨[[97],[97]],[⟨4,[],1⟩,⟨6,[],0⟩,⟨7,[],0⟩],[99]⟩
def drY : LineS:=⟨[[99]],[⟨8,[],0⟩],[100]⟩
theorem dr1 : gatherS [drA] drX.frm = ([98,32,120,10,97,32,121,10,99,32,122,10,98,32,120,10,97,32,121,10,99,32,122,10],0):=by decide +kernel
theorem dr2 : gatherS [drA,drC] drY.frm = ([97,10,98,10,99,10],0):=by decide +kernel
theorem dr3 : doLines drX.cmds (linesOf (gatherS [drA] drX.frm).1) = [[97],[98],[99]]:=by
  rw [dr1]
  show linesC ⟨7,[],0⟩ (linesC ⟨6,[],0⟩ (linesC ⟨4,[],1⟩ (linesOf [98,32,120,10,97,32,121,10,99,32,122,10,98,32,120,10,97,32,121,10,99,32,122,10]))) = _
  rw [show linesC ⟨4,[],1⟩ (linesOf [98,32,120,10,97,32,121,10,99,32,122,10,98,32,120,10,97,32,121,10,99,32,122,10]) = [[98],[97],[99],[98],[97],[99]] by decide +kernel]
  rw [show linesC ⟨6,[],0⟩ [[98],[97],[99],[98],[97],[99]] = sortB [[98],[97],[99],[98],[97],[99]] from rfl,sortB_of (l':=[[97],[97],[98],[98],[99],[99]]) (by decide) (by decide)]
  decide +kernel
theorem dr4 : doLines drY.cmds (linesOf (gatherS [drA,drC] drY.frm).1) = [[51]]:=by
  rw [dr2]
  decide +kernel
theorem dr5 : putS [drA] [99] [97,10,98,10,99,10] = ([drA,drC],0):=by decide +kernel
theorem dr6 : putS [drA,drC] [100] [51,10] = ([drA,drC,drD],0):=by decide +kernel
theorem dr7 : checkFiles [drA] = 0:=by decide +kernel
theorem dr8 : checkS [drX,drY] = 0 ∧ checkLine drX = 0 ∧ checkLine drY = 0:=by decide +kernel
theorem dr_shell : runL shellLine [drA] [drX,drY] = ([drA,drC,drD],0):=by
  have e1 : shellLine [drA] drX = ([97,10,98,10,99,10],0):=by
    rw [shell_line dr8.2.1 (by rw [dr1]),dr3]; rfl
  have e2 : shellLine [drA,drC] drY = ([51,10],0):=by
    rw [shell_line dr8.2.2 (by rw [dr2]),dr4]; rfl
  unfold runL
  rw [if_neg (by rw [dr7]; decide),if_neg (by rw [dr8.1]; decide),runGoL,e1,if_neg (by decide)]
  show (if (putS [drA] [99] [97,10,98,10,99,10]).2 ≠ 0 then _ else runGoL shellLine (putS [drA] [99] [97,10,98,10,99,10]).1 [drY]) = _
  rw [dr5,if_neg (by decide),runGoL,e2,if_neg (by decide)]
  show (if (putS [drA,drC] [100] [51,10]).2 ≠ 0 then _ else runGoL shellLine (putS [drA,drC] [100] [51,10]).1 []) = _
  rw [dr6]
  rfl
theorem dr_run : runL (fun F x=>driveS F x 3 1 5) [drA] [drX,drY] = ([drA,drC,drD],0):=by
  rw [runL_same (L':=shellLine) (fun F x=>drive_shell (by decide) (by decide) (by decide)),dr_shell]
end Gv
namespace Gv
variable [Glob] [Laid] [Nums] [Errs]
theorem drivenF_ca : callable Tryz.prog 7 = true:=by kernel_rfl
def drivenF_S : Spec:=fun args K=>args = [] ∧ K (.bool true)
noncomputable def drivenF_lib : List (Nat × Spec):=[(5,dRun_S)]
noncomputable def drivenF_fns : List (Nat × FnI):=[]
noncomputable def drivenF_prims : List (Nat × PSpec):=[]
theorem drivenF_E : EnvOK ⟨Tryz.prog,tys,drivenF_lib,drivenF_fns,drivenF_prims,[]⟩:=env_ok mixed0 tys0 (.cons dRun_ca dRun_ok .nil) .nil .nil rfl
set_option maxHeartbeats 8000000 in
set_option maxRecDepth 10000 in
theorem drivenF_ok : Pure Tryz.prog 7 drivenF_S:=by
  refine pure_by drivenF_E 6 (fi:={fn:=Tryz.f7,hooks:=[],draws:=[]}) ⟨Tryz.func7,by kernel_rfl,by kernel_rfl⟩ ?_
  rintro _ K ⟨rfl,hK⟩
  replace hK : ∀ r,r = .bool true → K r:=fun r h=>h ▸ hK
  skip
  conv=>whnf
  refine ⟨[98,32,120,10,97,32,121,10,99,32,122],rfl,by decide,?_⟩
  conv=>whnf
  skip
  first
    | refine ⟨Bs,strV,[[97],[97]],LeL.refl _,?_⟩
    | refine ⟨Bs,strV,[[99]],LeL.refl _,?_⟩
    | refine ⟨Cmd,cmdV,[⟨4,[],1⟩,⟨6,[],0⟩,⟨7,[],0⟩],LeL.refl _,?_⟩
    | refine ⟨Cmd,cmdV,[⟨8,[],0⟩],LeL.refl _,?_⟩
    | refine ⟨FileS,fileV,[drA],LeL.refl _,?_⟩
    | refine ⟨LineS,lineV,[drX,drY],LeL.refl _,?_⟩
    | refine ⟨Int,intV,[0,5,2,2,2],LeL.refl _,?_⟩
  skip
  first
    | refine ⟨Bs,strV,[[97],[97]],LeL.refl _,?_⟩
    | refine ⟨Bs,strV,[[99]],LeL.refl _,?_⟩
    | refine ⟨Cmd,cmdV,[⟨4,[],1⟩,⟨6,[],0⟩,⟨7,[],0⟩],LeL.refl _,?_⟩
    | refine ⟨Cmd,cmdV,[⟨8,[],0⟩],LeL.refl _,?_⟩
    | refine ⟨FileS,fileV,[drA],LeL.refl _,?_⟩
    | refine ⟨LineS,lineV,[drX,drY],LeL.refl _,?_⟩
    | refine ⟨Int,intV,[0,5,2,2,2],LeL.refl _,?_⟩
  skip
  first
    | refine ⟨Bs,strV,[[97],[97]],LeL.refl _,?_⟩
    | refine ⟨Bs,strV,[[99]],LeL.refl _,?_⟩
    | refine ⟨Cmd,cmdV,[⟨4,[],1⟩,⟨6,[],0⟩,⟨7,[],0⟩],LeL.refl _,?_⟩
    | refine ⟨Cmd,cmdV,[⟨8,[],0⟩],LeL.refl _,?_⟩
    | refine ⟨FileS,fileV,[drA],LeL.refl _,?_⟩
    | refine ⟨LineS,lineV,[drX,drY],LeL.refl _,?_⟩
    | refine ⟨Int,intV,[0,5,2,2,2],LeL.refl _,?_⟩
  skip
  first
    | refine ⟨Bs,strV,[[97],[97]],LeL.refl _,?_⟩
    | refine ⟨Bs,strV,[[99]],LeL.refl _,?_⟩
    | refine ⟨Cmd,cmdV,[⟨4,[],1⟩,⟨6,[],0⟩,⟨7,[],0⟩],LeL.refl _,?_⟩
    | refine ⟨Cmd,cmdV,[⟨8,[],0⟩],LeL.refl _,?_⟩
    | refine ⟨FileS,fileV,[drA],LeL.refl _,?_⟩
    | refine ⟨LineS,lineV,[drX,drY],LeL.refl _,?_⟩
    | refine ⟨Int,intV,[0,5,2,2,2],LeL.refl _,?_⟩
  skip
  first
    | refine ⟨Bs,strV,[[97],[97]],LeL.refl _,?_⟩
    | refine ⟨Bs,strV,[[99]],LeL.refl _,?_⟩
    | refine ⟨Cmd,cmdV,[⟨4,[],1⟩,⟨6,[],0⟩,⟨7,[],0⟩],LeL.refl _,?_⟩
    | refine ⟨Cmd,cmdV,[⟨8,[],0⟩],LeL.refl _,?_⟩
    | refine ⟨FileS,fileV,[drA],LeL.refl _,?_⟩
    | refine ⟨LineS,lineV,[drX,drY],LeL.refl _,?_⟩
    | refine ⟨Int,intV,[0,5,2,2,2],LeL.refl _,?_⟩
  skip
  first
    | refine ⟨Bs,strV,[[97],[97]],LeL.refl _,?_⟩
    | refine ⟨Bs,strV,[[99]],LeL.refl _,?_⟩
    | refine ⟨Cmd,cmdV,[⟨4,[],1⟩,⟨6,[],0⟩,⟨7,[],0⟩],LeL.refl _,?_⟩
    | refine ⟨Cmd,cmdV,[⟨8,[],0⟩],LeL.refl _,?_⟩
    | refine ⟨FileS,fileV,[drA],LeL.refl _,?_⟩
    | refine ⟨LineS,lineV,[drX,drY],LeL.refl _,?_⟩
    | refine ⟨Int,intV,[0,5,2,2,2],LeL.refl _,?_⟩
  skip
  first
    | refine ⟨Bs,strV,[[97],[97]],LeL.refl _,?_⟩
    | refine ⟨Bs,strV,[[99]],LeL.refl _,?_⟩
    | refine ⟨Cmd,cmdV,[⟨4,[],1⟩,⟨6,[],0⟩,⟨7,[],0⟩],LeL.refl _,?_⟩
    | refine ⟨Cmd,cmdV,[⟨8,[],0⟩],LeL.refl _,?_⟩
    | refine ⟨FileS,fileV,[drA],LeL.refl _,?_⟩
    | refine ⟨LineS,lineV,[drX,drY],LeL.refl _,?_⟩
    | refine ⟨Int,intV,[0,5,2,2,2],LeL.refl _,?_⟩
  skip
  refine ⟨[drA],[drX,drY],3,1,[0,5,2,2,2],rfl,?_⟩
  rw [show ([0,5,2,2,2] : List Int).length = 5 from rfl,dr_run]
  repeat' first | (refine fun (b : Bool) hb=>?_; cases b <;> (first | exact absurd hb (by decide) | exact Bool.noConfusion (show true = false from hb) | exact Bool.noConfusion (show false = true from hb) | skip)) | (refine fun (hl : _ ≤ MAXL)=>?_) | refine ⟨_,rfl,?_,rfl,?_⟩ | refine ⟨_,(fun _=>rfl),rfl,?_⟩ | fail
  · show 1 < 3; decide
  · show 2 < 3; decide
  conv=>whnf
  skip
  conv=>whnf
  exact hK _ rfl
end Gv
namespace Gv
variable [Glob] [Laid]
theorem atI_ca : callable Tryz.prog 6 = true:=by kernel_rfl
def atI_S : Spec:=fun args K=>∃ (k n : Int),args = [.int .i64 k,.int .i64 n] ∧ (I64 k ∧ 1 ≤ n ∧ n ≤ 1000000) ∧ K (.int .i64 (k % n))
noncomputable def atI_lib : List (Nat × Spec):=[]
noncomputable def atI_fns : List (Nat × FnI):=[]
noncomputable def atI_prims : List (Nat × PSpec):=[]
theorem atI_E : EnvOK ⟨Tryz.prog,tys,atI_lib,atI_fns,atI_prims,[]⟩:=env_ok mixed0 tys0 .nil .nil .nil rfl
set_option maxHeartbeats 4000000 in
theorem atI_ok : Pure Tryz.prog 6 atI_S:=by
  refine pure_by atI_E 6 (fi:={fn:=Tryz.f6,hooks:=[],draws:=[]}) ⟨Tryz.func6,by kernel_rfl,by kernel_rfl⟩ ?_
  rintro _ K ⟨k,n,rfl,⟨hk,h1,h2⟩,hK⟩
  replace hK : ∀ r,r = .int .i64 (k % n) → K r:=fun r h=>h ▸ hK
  have h3:=at_eq k n h1
  have h4:=Int.emod_lt_of_pos k (show 0 < n by omega)
  have h5:=Int.emod_nonneg k (show n ≠ 0 by omega)
  refine ⟨by omega,?_⟩
  repeat' first | (refine fun (b : Bool) hb=>?_; cases b <;> (first | exact absurd hb (by decide) | exact Bool.noConfusion (show true = false from hb) | exact Bool.noConfusion (show false = true from hb) | skip)) | refine And.intro (a:=I64 _) ?_ ?_ | fail
  · have h : ¬ k.tmod n < 0:=of_decide_eq_false (by assumption)
    rw [if_neg h] at h3
    rw [h3]
    exact hK _ rfl
  · have h : k.tmod n < 0:=of_decide_eq_true (by assumption)
    rw [if_pos h] at h3
    rw [h3]
    (first | omega | (unfold I64; omega) | (simp only [List.length_append,List.length_map,List.length_cons,List.length_nil,Nat.mul_one,Int.ofNat_eq_natCast] at *; omega) | (dsimp only at *; omega) | (unfold I64; dsimp only at *; omega) | (unfold I64; grind) | grind)
  · have h : k.tmod n < 0:=of_decide_eq_true (by assumption)
    rw [if_pos h] at h3
    conv=>whnf
    rw [h3]
    exact hK _ rfl
end Gv
namespace Gv
variable [Glob] [Laid]
theorem equalB_ca : callable Tryz.prog 17 = true:=by kernel_rfl
def equalB_S : Spec:=fun args K=>∃ a b : List UInt8,args = [.sl byteV a,.sl byteV b] ∧ K (.bool (decide (a = b)))
noncomputable def equalB_lib : List (Nat × Spec):=[]
noncomputable def equalB_fns : List (Nat × FnI):=[]
noncomputable def equalB_prims : List (Nat × PSpec):=[]
theorem equalB_E : EnvOK ⟨Tryz.prog,tys,equalB_lib,equalB_fns,equalB_prims,[]⟩:=env_ok mixed0 tys0 .nil .nil .nil rfl
set_option maxHeartbeats 4000000 in
theorem equalB_ok : Pure Tryz.prog 17 equalB_S:=by
  refine pure_by equalB_E 6 (fi:={fn:=Tryz.f17,hooks:=[],draws:=[(6,[0,0,3,7,0,0,48,112,255])]}) ⟨Tryz.func17,by kernel_rfl,by kernel_rfl⟩ ?_
  rintro _ K ⟨x,y,rfl,hK⟩
  replace hK : ∀ r,r = .bool (decide (x = y)) → K r:=fun r h=>h ▸ hK
  repeat' first | (refine fun (b : Bool) hb=>?_; cases b <;> (first | exact absurd hb (by decide) | exact Bool.noConfusion (show true = false from hb) | exact Bool.noConfusion (show false = true from hb) | skip)) | (refine fun (hl : _ ≤ MAXL)=>?_) | fail
  rotate_left
  · refine hK _ ?_
    congr 1
    grind
  conv=>whnf
  refine loop_intro (σ:=Nat) (fun i=>[(0,.sl byteV x),(1,.sl byteV y),(12,.int .i64 x.length),(13,.int .i64 i),(4,.lit false)]) (fun _=>[]) (fun i=>i ≤ x.length ∧ x.take i = y.take i) (fun i=>x.length - i) 0 (wk_sel [] rfl rfl trivial ?_) ⟨Nat.zero_le _,rfl⟩ ?_
  · (repeat' (first | exact True.intro | exact rfl | exact Or.inl rfl | exact Or.inr rfl | refine And.intro ?_ ?_ | fail))
  intro i ⟨hi,hI⟩
  repeat' first | (refine fun (b : Bool) hb=>?_; cases b <;> (first | exact absurd hb (by decide) | exact Bool.noConfusion (show true = false from hb) | exact Bool.noConfusion (show false = true from hb) | skip)) | refine And.intro (a:=I64 _) ?_ ?_ | refine ⟨_,⟨rfl,rfl⟩,?_⟩ | refine ⟨_,⟨_,rfl,?_,rfl,rfl,rfl⟩,?_⟩ | fail
  · refine hK _ ?_
    congr 1
    have e : x = y:=by
      have h1 : x.take i = x:=List.take_of_length_le (by grind)
      have h2 : y.take i = y:=List.take_of_length_le (by grind)
      rw [← h1,← h2,hI]
    simp [e]
  · grind
  · grind
  · unfold I64; grind
  · refine ⟨i + 1,?_,⟨?_,?_⟩,?_⟩
    · refine wk_sel [] rfl rfl trivial ?_
      (repeat' (first | exact True.intro | exact rfl | exact Or.inl rfl | exact Or.inr rfl | refine And.intro ?_ ?_ | fail))
    · grind
    · have g1 : i < x.length:=by grind
      have g2 : i < y.length:=by grind
      rw [List.take_succ_eq_append_getElem g1,List.take_succ_eq_append_getElem g2,hI]
      have e : x[i].toNat = y[i].toNat:=by grind
      rw [UInt8.toNat_inj.1 e]
    · grind
  · refine hK _ ?_
    congr 1
    grind
end Gv
namespace Gv
variable [Glob] [Laid]
theorem files_eqS {a b : FileS} (h1 : a.name = b.name) (h2 : a.b = b.b) : a = b:=by
  cases a; cases b; simp only at h1 h2; subst h1; subst h2; rfl
theorem sameFS_ca : callable Tryz.prog 8 = true:=by kernel_rfl
def sameFS_S : Spec:=fun args K=>∃ a b : List FileS,args = [.sl fileV a,.sl fileV b] ∧ K (.bool (decide (a = b)))
noncomputable def sameFS_lib : List (Nat × Spec):=[(17,equalB_S)]
noncomputable def sameFS_fns : List (Nat × FnI):=[(15,{fn:=Tryz.f15,hooks:=[],draws:=[]}),(16,{fn:=Tryz.f16,hooks:=[],draws:=[]})]
noncomputable def sameFS_prims : List (Nat × PSpec):=[]
theorem sameFS_E : EnvOK ⟨Tryz.prog,tys,sameFS_lib,sameFS_fns,sameFS_prims,[]⟩:=env_ok mixed0 tys0 (.cons equalB_ca equalB_ok .nil) (.cons (by kernel_rfl) ⟨Tryz.func15,by kernel_rfl,by kernel_rfl⟩ (.cons (by kernel_rfl) ⟨Tryz.func16,by kernel_rfl,by kernel_rfl⟩ .nil)) .nil rfl
set_option maxHeartbeats 4000000 in
theorem sameFS_ok : Pure Tryz.prog 8 sameFS_S:=by
  refine pure_by sameFS_E 6 (fi:={fn:=Tryz.f8,hooks:=[],draws:=[]}) ⟨Tryz.func8,by kernel_rfl,by kernel_rfl⟩ ?_
  rintro _ K ⟨x,y,rfl,hK⟩
  replace hK : ∀ r,r = .bool (decide (x = y)) → K r:=fun r h=>h ▸ hK
  repeat' first | (refine fun (b : Bool) hb=>?_; cases b <;> (first | exact absurd hb (by decide) | exact Bool.noConfusion (show true = false from hb) | exact Bool.noConfusion (show false = true from hb) | skip)) | (refine fun (hl : _ ≤ MAXL)=>?_) | fail
  rotate_left
  · refine hK _ ?_
    congr 1
    grind
  conv=>whnf
  refine loop_live [1,2,15,16] (σ:=Nat) (fun i=>[(17,.int .i64 i)]) (fun _=>[]) (fun i=>i ≤ x.length ∧ x.take i = y.take i) (fun i=>x.length - i) 0 ?_
  conv=>whnf
  refine ⟨(by (refine wk_auto ?_; refine Sel4.mk rfl rfl ?_ ?_ <;> (repeat' (first | exact True.intro | exact rfl | exact Or.inl rfl | exact Or.inr rfl | refine And.intro ?_ ?_ | fail)))),⟨Nat.zero_le _,rfl⟩,?_⟩
  intro i ⟨hi,hI⟩
  have hlen : x.length = y.length:=by
    have h : (!decide ((x.length : Int) = (y.length : Int))) = false:=by assumption
    have h2 : (x.length : Int) = (y.length : Int):=by simpa using h
    omega
  repeat' first | (refine fun (b : Bool) hb=>?_; cases b <;> (first | exact absurd hb (by decide) | exact Bool.noConfusion (show true = false from hb) | exact Bool.noConfusion (show false = true from hb) | skip)) | refine ⟨_,rfl,?_,rfl,?_⟩ | fail
  · have hix : i = x.length := by
      have h:=of_decide_eq_false (by assumption : decide ((i : Int) < (x.length : Int)) = false)
      omega
    subst hix
    rw [List.take_length,hlen,List.take_length] at hI
    conv=>whnf
    skip
    refine hK _ ?_
    congr 1
    exact (decide_eq_true hI).symm
  all_goals
    have g1 : i < x.length:=by
      have h:=of_decide_eq_true (by assumption : decide ((i : Int) < (x.length : Int)) = true)
      omega
    have g2 : i < y.length:=by omega
  · exact g1
  · exact g2
  · conv=>whnf
    skip
    refine hK _ ?_
    congr 1
    have hn : ¬ x[i].name = y[i].name:=of_decide_eq_false (by assumption)
    exact (decide_eq_false fun h=>hn (by subst h; rfl)).symm
  · have hn : x[i].name = y[i].name:=of_decide_eq_true (by assumption)
    conv=>whnf
    skip
    refine ⟨x[i].b,y[i].b,rfl,?_⟩
    repeat' first | (refine fun (b : Bool) hb=>?_; cases b <;> (first | exact absurd hb (by decide) | exact Bool.noConfusion (show true = false from hb) | exact Bool.noConfusion (show false = true from hb) | skip)) | refine And.intro (a:=I64 _) ?_ ?_ | fail
    · have hm : x.length ≤ MAXL:=by assumption
      unfold I64; unfold MAXL at hm; omega
    · conv=>whnf
      skip
      have hbb : x[i].b = y[i].b:=by simpa using ‹(!decide (x[i].b = y[i].b)) = false›
      refine ⟨i + 1,(by (refine wk_auto ?_; refine Sel4.mk rfl rfl ?_ ?_ <;> (repeat' (first | exact True.intro | exact rfl | exact Or.inl rfl | exact Or.inr rfl | refine And.intro ?_ ?_ | fail)))),⟨g1,?_⟩,by omega⟩
      rw [List.take_succ_eq_append_getElem g1,List.take_succ_eq_append_getElem g2,hI,files_eqS hn hbb]
    · have hbb : ¬ x[i].b = y[i].b:=by simpa using ‹(!decide (x[i].b = y[i].b)) = true›
      conv=>whnf
      skip
      refine hK _ ?_
      congr 1
      exact (decide_eq_false fun h=>hbb (by subst h; rfl)).symm
end Gv
namespace Gv
variable [Glob] [Laid] [Nums] [Errs]
def dSame_S : Spec:=fun args K=>∃ (F : List FileS) (s : List LineS) (wd rm : Int) (ps : List Int),args = [.sl fileV F,.sl lineV s,.int .i64 wd,.int .i64 rm,.sl intV ps] ∧ (I64 wd ∧ I64 rm) ∧ K (.bool true)
noncomputable def dSame_lib : List (Nat × Spec):=[(4,runS_S),(5,dRun_S),(7,drivenF_S),(6,atI_S),(8,sameFS_S)]
noncomputable def dSame_fns : List (Nat × FnI):=[]
noncomputable def dSame_prims : List (Nat × PSpec):=[]
theorem dSame_E : EnvOK ⟨Tryz.prog,tys,dSame_lib,dSame_fns,dSame_prims,[]⟩:=env_ok mixed0 tys0 (.cons runS_ca runS_ok (.cons dRun_ca dRun_ok (.cons drivenF_ca drivenF_ok (.cons atI_ca atI_ok (.cons sameFS_ca sameFS_ok .nil))))) .nil .nil rfl
set_option maxHeartbeats 16000000 in
theorem dSame_ok : Pure Tryz.prog 3 dSame_S:=by
  refine pure_by dSame_E 6 (fi:={fn:=Tryz.f3,hooks:=[],draws:=[(2,[0,0,0,4,12,0,44,108,0,0,512,1536,3840,8191,16383,32767,32767,65535,262143])]}) ⟨Tryz.func3,by kernel_rfl,by kernel_rfl⟩ ?_
  rintro _ K ⟨F,s,wd,rm,ps,rfl,⟨hw,hr⟩,hK⟩
  replace hK : ∀ r,r = .bool true → K r:=fun r h=>h ▸ hK
  have w0:=Int.emod_nonneg wd (show (5 : Int) ≠ 0 by decide)
  have w1:=Int.emod_lt_of_pos wd (show (0 : Int) < 5 by decide)
  have r0:=Int.emod_nonneg rm (show (1000 : Int) ≠ 0 by decide)
  have r1:=Int.emod_lt_of_pos rm (show (0 : Int) < 1000 by decide)
  obtain ⟨z,hz⟩ : ∃ z,runL shellLine F s = z:=⟨_,rfl⟩
  have hd : runL (fun F x=>driveS F x (1 + wd % 5) (1 + rm % 1000) (ps.take (min ps.length 400)).length) F s = z:=by
    rw [← hz]
    exact runL_same (fun F x=>drive_shell (by omega) (by omega) (by rw [List.length_take]; omega)) F s
  refine ⟨F,s,rfl,?_⟩
  rw [hz]
  repeat' first | refine ⟨_,⟨rfl,rfl⟩,?_⟩ | fail
  conv=>whnf
  skip
  refine ⟨_,⟨wd,5,rfl,⟨hw,by decide,by decide⟩,rfl,rfl⟩,?_⟩
  repeat' first | refine ⟨_,⟨rfl,rfl⟩,?_⟩ | refine ⟨_,And.intro (a:=I64 _) ?_ ⟨rfl,rfl⟩,?_⟩ | fail
  conv=>whnf
  skip
  · omega
  conv=>whnf
  skip
  refine ⟨_,⟨rm,1000,rfl,⟨hr,by decide,by decide⟩,rfl,rfl⟩,?_⟩
  repeat' first | refine ⟨_,⟨rfl,rfl⟩,?_⟩ | refine ⟨_,And.intro (a:=I64 _) ?_ ⟨rfl,rfl⟩,?_⟩ | refine ⟨_,(fun _=>⟨rfl,rfl⟩),?_⟩ | fail
  conv=>whnf
  skip
  · omega
  conv=>whnf
  skip
  conv=>whnf
  skip
  apply Exists.intro
  apply And.intro
  · refine ⟨fun _=>rfl,min ps.length 400,?_,Nat.min_le_left _ _,?_⟩
    rotate_left
    · exact ⟨rfl,rfl⟩
    · omega
  refine ⟨.tup [.sl fileV z.1,.int .i64 z.2],⟨F,s,1 + wd % 5,1 + rm % 1000,ps.take (min ps.length 400),rfl,by rw [hd],rfl⟩,?_⟩
  repeat' first | (refine fun (b : Bool) hb=>?_; cases b <;> (first | exact absurd hb (by decide) | exact Bool.noConfusion (show true = false from hb) | exact Bool.noConfusion (show false = true from hb) | skip)) | refine ⟨_,⟨rfl,rfl⟩,?_⟩ | refine ⟨rfl,?_⟩ | fail
  conv=>whnf
  skip
  · exact absurd ‹decide (z.2 = z.2) = false› (by simp)
  conv=>whnf
  skip
  refine ⟨z.1,z.1,rfl,?_⟩
  conv=>whnf
  skip
  refine hK _ ?_
  congr 1
  exact decide_eq_true rfl
end Gv
namespace Gv
variable [Glob] [Laid]
theorem opn_cmd : Opn Tryz.prog 48 cmdV (fun _=>True):=⟨fun en w fuel cs d p h hw=>by
  have hl : cs.length = 3:=(opn_width Tryz.underlying48 h).trans (by kernel_rfl)
  obtain ⟨k,_,f1⟩:=opn_field 0 0 1 (T:=3) Tryz.underlying48 rfl rfl rfl (by kernel_rfl) (opn_int Tryz.underlying3) h hw
  obtain ⟨s,_,f2⟩:=opn_field 1 1 1 (T:=9) Tryz.underlying48 rfl rfl rfl (by kernel_rfl) (opn_str Tryz.underlying9) h hw
  obtain ⟨n,_,f3⟩:=opn_field 2 2 1 (T:=3) Tryz.underlying48 rfl rfl rfl (by kernel_rfl) (opn_int Tryz.underlying3) h hw
  have:=Fit.cons 0 1 f1 rfl (Fit.cons 1 2 f2 rfl (Fit.cons 2 3 f3 rfl (Fit.last 3 hl)))
  rw [List.drop_zero] at this
  exact ⟨⟨k,s,n⟩,trivial,this⟩⟩
end Gv
namespace Gv
variable [Glob] [Laid]
def lineCells (l : LineS) : List V:=[.sl strV l.frm,.sl cmdV l.cmds,.str l.to]
theorem opn_line : Opn Tryz.prog 39 (fun l=>.agg (lineCells l)) (fun _=>True):=⟨fun en w fuel cs d p h hw=>by
  have hl : cs.length = 3:=(opn_width Tryz.underlying39 h).trans (by kernel_rfl)
  obtain ⟨k,_,f1⟩:=opn_field 0 0 1 (T:=36) Tryz.underlying39 rfl rfl rfl (by kernel_rfl) (opn_slice (k:=1) Tryz.underlying36 (by kernel_rfl) (by omega) (opn_str Tryz.underlying9)) h hw
  obtain ⟨s,_,f2⟩:=opn_field 1 1 1 (T:=37) Tryz.underlying39 rfl rfl rfl (by kernel_rfl) (opn_slice (k:=3) Tryz.underlying37 (by kernel_rfl) (by omega) opn_cmd) h hw
  obtain ⟨n,_,f3⟩:=opn_field 2 2 1 (T:=9) Tryz.underlying39 rfl rfl rfl (by kernel_rfl) (opn_str Tryz.underlying9) h hw
  have:=Fit.cons 0 1 f1 rfl (Fit.cons 1 2 f2 rfl (Fit.cons 2 3 f3 rfl (Fit.last 3 hl)))
  rw [List.drop_zero] at this
  exact ⟨⟨k,s,n⟩,trivial,this⟩⟩
end Gv
namespace Gv
variable [Glob] [Laid]
theorem opn_file : Opn Tryz.prog 46 fileV (fun _=>True):=⟨fun en w fuel cs d p h hw=>by
  have hl : cs.length = 2:=(opn_width Tryz.underlying46 h).trans (by kernel_rfl)
  obtain ⟨k,_,f1⟩:=opn_field 0 0 1 (T:=9) Tryz.underlying46 rfl rfl rfl (by kernel_rfl) (opn_str Tryz.underlying9) h hw
  obtain ⟨n,_,f3⟩:=opn_field 1 1 1 (T:=40) Tryz.underlying46 rfl rfl rfl (by kernel_rfl) (opn_slice (k:=1) Tryz.underlying40 (by kernel_rfl) (by omega) (opn_byte Tryz.underlying5)) h hw
  have:=Fit.cons 0 1 f1 rfl (Fit.cons 1 2 f3 rfl (Fit.last 2 hl))
  rw [List.drop_zero] at this
  exact ⟨⟨k,n⟩,trivial,this⟩⟩
end Gv
namespace Gv
variable [Glob] [Laid] [Nums] [Errs]
theorem dSameT_ok : Pure Tryz.prog 3 dSame_S:=dSame_ok
end Gv
