/- A calculus of what functions come to, part e: what is said holds in every world; conditions stand in each theorem. -/
import Derived.Test.YtffljdmmambdjacGreatDoorVc
import Derived.Test.YtffljdmmambdjacGreatDoorVd
set_option linter.unusedVariables false
set_option linter.unusedSimpArgs false
set_option linter.unusedSectionVars false
section PartFo3
namespace Gv
open Go Go.RowKit Gw Gp
variable [Glob]
theorem qxe_ {nb:Nat} {L:qe_} {rows:Rows} {G:qe_→Rows→Prop} (r2 r3 ra rb i:Nat) {els:List V} {Q:Loc} {subs:List (List V)} {got out:List V} {a rd ov:V}
  (h2:rows[r2]?=some (.rowq 5 els)) (h3:rows[r3]?=some (.pack Q subs)) (ha:rows[ra]?=some (.row 1 got)) (hb:rows[rb]?=some (.row 1 out)) (hab:ra≠rb)
  (hi:els[i]?=some (.agg [.own ra,a,.own rb,rd,ov])) (hp:zk_ [a,rd,ov]=true) (hl:subs.length=2*i) (hpe:∀ j x,j≠i→els[j]?=some x→zk_ x.cells=true)
  (hG:∀ Q':Loc,(∀ j,j < 2*i→Q' j=Q j)→G L ((((rows.set r2 (.row 5 (els.set i (.agg [.raw (rawQ Q' (2*i)),a,.raw (rawQ Q' (2*i+1)),rd,ov])))).set r3 (.pack Q' (subs++[got,out]))).set ra .dead).set rb .dead)) :
  WkE nb L rows G:=by
 have n23:r2≠r3:=fun e=>by subst e;rw [h2] at h3;cases h3
 have n2a:r2≠ra:=fun e=>by subst e;rw [h2] at ha;cases ha
 have n2b:r2≠rb:=fun e=>by subst e;rw [h2] at hb;cases hb
 have n3a:r3≠ra:=fun e=>by subst e;rw [h3] at ha;cases ha
 have n3b:r3≠rb:=fun e=>by subst e;rw [h3] at hb;cases hb
 have l2:=(List.getElem?_eq_some_iff.1 h2).1
 have l3:=(List.getElem?_eq_some_iff.1 h3).1
 have la:=(List.getElem?_eq_some_iff.1 ha).1
 have lb:=(List.getElem?_eq_some_iff.1 hb).1
 have lil:=(List.getElem?_eq_some_iff.1 hi).1
 refine ⟨?_⟩
 rintro w0 m0 mb qb n act w hqb ⟨⟨R,m,q,s1,s2,s3,s4,s5⟩,s6,s7⟩
 let Q':Loc:=fun j=>if j=2*i then q ra else if j=2*i+1 then q rb else Q j
 have qa:Q' (2*i)=q ra:=if_pos rfl
 have qb':Q' (2*i+1)=q rb:=by show (if 2*i+1=2*i then q ra else if 2*i+1=2*i+1 then q rb else Q (2*i+1))=q rb;rw [if_neg (by omega),if_pos rfl]
 have qo:∀ j,j < 2*i→Q' j=Q j:=fun j hj=>by simp only [Q'];rw [if_neg (by omega),if_neg (by omega)]
 have Ka:RowR R m q ra 1 got:=s2.row ra _ ha
 have Kb:RowR R m q rb 1 out:=s2.row rb _ hb
 have K3:=s2.row r3 _ h3
 have old:∀ {A B:Row} (j:Nat) z,((((rows.set r2 A).set r3 B).set ra .dead).set rb .dead)[j]?=some z→(j=r2∧z=A)∨(j=r3∧z=B)∨z=.dead∨(j≠r2∧j≠r3∧j≠ra∧j≠rb∧rows[j]?=some z):=fun {A B} j z hz=>by
  by_cases gb:rb=j
  ·subst gb
   rw [List.getElem?_set_self (by simpa using lb)] at hz
   cases hz
   exact .inr (.inr (.inl rfl))
  rw [List.getElem?_set_ne gb] at hz
  by_cases ga:ra=j
  ·subst ga
   rw [List.getElem?_set_self (by simpa using la)] at hz
   cases hz
   exact .inr (.inr (.inl rfl))
  rw [List.getElem?_set_ne ga] at hz
  by_cases g3:r3=j
  ·subst g3
   rw [List.getElem?_set_self (by simpa using l3)] at hz
   cases hz
   exact .inr (.inl ⟨rfl,rfl⟩)
  rw [List.getElem?_set_ne g3] at hz
  by_cases g2:r2=j
  ·subst g2
   rw [List.getElem?_set_self l2] at hz
   cases hz
   exact .inl ⟨rfl,rfl⟩
  rw [List.getElem?_set_ne g2] at hz
  exact .inr (.inr (.inr ⟨fun h=>g2 h.symm,fun h=>g3 h.symm,fun h=>ga h.symm,fun h=>gb h.symm,hz⟩))
 have sub2:∀ (j:Nat) x,(subs++[got,out])[j]?=some x→(j < 2*i∧subs[j]?=some x)∨(j=2*i∧x=got)∨(j=2*i+1∧x=out):=fun j x hx=>by
  rcases Nat.lt_or_ge j subs.length with h|h
  ·rw [List.getElem?_append_left h] at hx;exact .inl ⟨by omega,hx⟩
  ·rw [List.getElem?_append_right h,hl] at hx
   rcases Nat.lt_or_ge j (2*i+1) with g|g
   ·have:j-2*i=0:=by omega
    rw [this] at hx;simp at hx;exact .inr (.inl ⟨by omega,hx.symm⟩)
   ·rcases Nat.lt_or_ge j (2*i+2) with g'|g'
    ·have:j-2*i=1:=by omega
     rw [this] at hx;simp at hx;exact .inr (.inr ⟨by omega,hx.symm⟩)
    ·rw [List.getElem?_eq_none (by simp;omega)] at hx;cases hx
 have occ3:∀ b,Occ q r3 (.pack Q' (subs++[got,out])) b→Occ q r3 (.pack Q subs) b∨Occ q ra (.row 1 got) b∨Occ q rb (.row 1 out) b:=fun b ⟨j,n,c,k,hj,hQ⟩=>by
  simp only [List.length_append,List.length_cons,List.length_nil,hl] at hj
  by_cases e1:j=2*i
  ·subst e1;rw [qa] at hQ;exact .inr (.inl ⟨n,c,k,hQ⟩)
  ·by_cases e2:j=2*i+1
   ·subst e2;rw [qb'] at hQ;exact .inr (.inr ⟨n,c,k,hQ⟩)
   ·rw [qo j (by omega)] at hQ
    exact .inl ⟨j,n,c,k,by omega,hQ⟩
 refine ⟨L,_,hG Q' qo,⟨R,m,q,s1,⟨fun r x h=>by simpa using s2.fresh r x h,fun j z hz=>?_,fun j j' z z' b hz hz' hy hy' ho ho'=>?_⟩,s3,s4,s5⟩,s6,s7⟩
 ·rcases old j z hz with ⟨rfl,rfl⟩|⟨rfl,rfl⟩|rfl|⟨-,-,-,-,hz⟩
  ·obtain ⟨ob,cap,x1,x2,x3,x4,x5⟩:=s2.row j _ h2
   refine ⟨ob,cap,by rw [List.length_set];exact x1,by rw [List.length_set];exact x2,x3,x4,fun b hb=>?_⟩
   obtain ⟨arr,T,fz,y1,y2,y3,y4⟩:=x5 b hb
   refine ⟨arr,T,fz,y1,y2,fun k x hx=>?_,y4⟩
   by_cases ek:i=k
   ·subst ek
    rw [List.getElem?_set_self lil] at hx
    cases hx
    obtain ⟨-,z2⟩:=y3 i _ hi
    obtain ⟨oa,ca,k1,-⟩:=Ka
    obtain ⟨oo,co,k2,-⟩:=Kb
    refine ⟨rfl,fun c v hc=>?_⟩
    rcases get5 hc with ⟨rfl,rfl⟩|⟨rfl,rfl⟩|⟨rfl,rfl⟩|⟨rfl,rfl⟩|⟨rfl,rfl⟩
    ·obtain ⟨u,c1,c2,c3⟩:=z2 0 _ rfl
     refine ⟨u,c1,c2,?_⟩
     cases c3 with
     | own h=>rw [yd_ (qa.trans h)];exact .raw
    ·obtain ⟨u,c1,c2,c3⟩:=z2 1 _ rfl;exact ⟨u,c1,c2,c3.free (zs_ _ hp _ (by simp))⟩
    ·obtain ⟨u,c1,c2,c3⟩:=z2 2 _ rfl
     refine ⟨u,c1,c2,?_⟩
     cases c3 with
     | own h=>rw [yd_ (qb'.trans h)];exact .raw
    ·obtain ⟨u,c1,c2,c3⟩:=z2 3 _ rfl;exact ⟨u,c1,c2,c3.free (zs_ _ hp _ (by simp))⟩
    ·obtain ⟨u,c1,c2,c3⟩:=z2 4 _ rfl;exact ⟨u,c1,c2,c3.free (zs_ _ hp _ (by simp))⟩
   ·rw [List.getElem?_set_ne ek] at hx
    obtain ⟨z1,z2⟩:=y3 k x hx
    refine ⟨z1,fun c v hc=>?_⟩
    obtain ⟨u,c1,c2,c3⟩:=z2 c v hc
    exact ⟨u,c1,c2,c3.free (zs_ _ (hpe k x (fun e=>ek e.symm) hx) v (List.mem_of_getElem? hc))⟩
  ·refine ⟨fun k x hk=>?_,fun k k' b n c kk n' c' kk' hk hk' hQ hQ'=>?_⟩
   ·rcases sub2 k x hk with ⟨g1,g2⟩|⟨rfl,rfl⟩|⟨rfl,rfl⟩
    ·have hK:RowR R m Q k 1 x:=K3.1 k _ g2
     exact hK.up (Q':=Q') (qo k g1) (Mem.Le.refl m) fun _ _ _ _ _=>rfl
    ·exact Ka.up (Q':=Q') qa (Mem.Le.refl m) fun _ _ _ _ _=>rfl
    ·exact Kb.up (Q':=Q') qb' (Mem.Le.refl m) fun _ _ _ _ _=>rfl
   ·simp only [List.length_append,List.length_cons,List.length_nil,hl] at hk hk'
    have cls:∀ k,k < 2*i+(0+1+1)→k < 2*i∨k=2*i∨k=2*i+1:=fun k h=>by omega
    have A:=s2.apart
    rcases cls k hk with h|rfl|rfl<;>rcases cls k' hk' with h'|rfl|rfl
    ·rw [qo k h] at hQ;rw [qo k' h'] at hQ'
     exact K3.2 k k' b _ _ _ _ _ _ (by omega) (by omega) hQ hQ'
    ·rw [qo k h] at hQ;rw [qa] at hQ'
     exact absurd (A j ra _ _ b h3 ha rfl rfl ⟨k,_,_,_,by omega,hQ⟩ ⟨_,_,_,hQ'⟩) n3a
    ·rw [qo k h] at hQ;rw [qb'] at hQ'
     exact absurd (A j rb _ _ b h3 hb rfl rfl ⟨k,_,_,_,by omega,hQ⟩ ⟨_,_,_,hQ'⟩) n3b
    ·rw [qa] at hQ;rw [qo k' h'] at hQ'
     exact absurd (A j ra _ _ b h3 ha rfl rfl ⟨k',_,_,_,by omega,hQ'⟩ ⟨_,_,_,hQ⟩) n3a
    ·rfl
    ·rw [qa] at hQ;rw [qb'] at hQ'
     exact absurd (A ra rb _ _ b ha hb rfl rfl ⟨_,_,_,hQ⟩ ⟨_,_,_,hQ'⟩) hab
    ·rw [qb'] at hQ;rw [qo k' h'] at hQ'
     exact absurd (A j rb _ _ b h3 hb rfl rfl ⟨k',_,_,_,by omega,hQ'⟩ ⟨_,_,_,hQ⟩) n3b
    ·rw [qb'] at hQ;rw [qa] at hQ'
     exact absurd (A ra rb _ _ b ha hb rfl rfl ⟨_,_,_,hQ'⟩ ⟨_,_,_,hQ⟩) hab
    ·rfl
  ·trivial
  ·exact s2.row j z hz
 ·have back : ∀ (j : Nat) z, ((((rows.set r2 (.row 5 (els.set i (.agg [.raw (rawQ Q' (2 * i)), a, .raw (rawQ Q' (2 * i + 1)), rd, ov])))).set r3 (.pack Q' (subs ++ [got, out]))).set ra .dead).set rb .dead)[j]? = some z → z.mut = true → Occ q j z b →
      ∃ g z0,rows[g]?=some z0∧z0.mut=true∧Occ q g z0 b∧(g=j∨(j=r3∧(g=ra∨g=rb)))∧j≠ra∧j≠rb:=fun j z hz hm hb0=>by
   rcases old j z hz with ⟨rfl,rfl⟩|⟨rfl,rfl⟩|rfl|⟨g2,g3,ga,gb,hz⟩
   ·exact ⟨_,_,h2,rfl,hb0,.inl rfl,n2a,n2b⟩
   ·rcases occ3 b hb0 with h|h|h
    ·exact ⟨_,_,h3,rfl,h,.inl rfl,n3a,n3b⟩
    ·exact ⟨_,_,ha,rfl,h,.inr ⟨rfl,.inl rfl⟩,n3a,n3b⟩
    ·exact ⟨_,_,hb,rfl,h,.inr ⟨rfl,.inr rfl⟩,n3a,n3b⟩
   ·cases hm
   ·exact ⟨_,z,hz,hm,hb0,.inl rfl,ga,gb⟩
  obtain ⟨g,y,g1,g2,g3,g4,g5,g6⟩:=back j z hz hy ho
  obtain ⟨g',y',g1',g2',g3',g4',g5',g6'⟩:=back j' z' hz' hy' ho'
  have e:=s2.apart g g' y y' b g1 g1' g2 g2' g3 g3'
  rcases g4 with rfl|⟨rfl,g4⟩<;>rcases g4' with rfl|⟨rfl,g4'⟩
  ·exact e
  ·rcases g4' with rfl|rfl
   ·exact absurd e g5
   ·exact absurd e g6
  ·rcases g4 with rfl|rfl
   ·exact absurd e.symm g5'
   ·exact absurd e.symm g6'
  ·rfl
section
variable {w0:Start} {w w':World} {m0 R m:Mem} {q:Loc} {rows:Rows} {P:Program}
def Row.shut:Row→Bool
 | .dead|.row ..|.pack ..|.byt ..|.fz ..|.mp ..=>true
 | _=>false
def shV (n:Nat):V→V
 | .own r=>.own (n+r)
 | v=>v
theorem qtk_ {f:FuncId} {T0:qn_} (HT:q1_ P f T0) {args:List V} {us:List Value} {k:V→Rows→Prop}
  (C:Cf w0 m0 rows R m q w) (hv:VRL m noLoc args us)
  (hT:T0 args [] (fun v rows1=>(∀ y∈rows1,y.shut=true)∧∃ cs,v=.agg cs∧(∀ c∈cs,c.pure=true∨∃ r,c=.own r)∧k (.agg (cs.map (shV rows.length))) (rows++rows1))) :
  qb_ P f=true∧Calls P f us.toArray w fun e w'=>∃ u,e=.returned u∧After w0 m0 m q k u w':=by
 have C0:Cf ⟨w,[]⟩ m [] (fun _=>none) m noLoc w:=⟨.start C.sit.mem C.sit.glob,⟨(fun r x h=>by cases h),(fun r x h=>by simp at h),(fun r r' x x' b h=>by simp at h)⟩⟩
 obtain ⟨hc,hcalls⟩:=HT ⟨w,[]⟩ m args [] _ _ m noLoc w us C0 hv hT
 refine ⟨hc,hcalls.mono fun e w' ⟨u,he,v,rows1,R1,m1,q1,⟨hsh,cs,hvc,hcp,hk⟩,C1,hm1,hq1,hvu⟩=>?_⟩
 subst hvc
 let q':Loc:=fun r=>if r < rows.length then q r else q1 (r-rows.length)
 let R':Mem:=fun b=>match R1 b with|some o=>some o|none=>R b
 have hold:∀ b o,R b=some o→R1 b=none∧w'.heap[b]?=some o∧m1 b=none:=fun b o hb=>by
  obtain ⟨g1,g2,g3⟩:=C.sit.own b o hb
  have hlt:=C.sit.lt hb
  refine ⟨?_,?_,?_⟩
  ·cases hR:R1 b with
   | none=>rfl
   | some o' =>
    rcases (C1.sit.own b o' hR).1 with h|h
    ·have h:w.heap.size≤b:=h
     omega
    ·cases h
  ·rw [C1.sit.bel.block b hlt (by simp)];exact g2
  ·cases hm:m1 b with
   | none=>rfl
   | some o' =>
    have:=C1.sit.low b o' hm hlt (by simp)
    rw [g3] at this
    cases this
 have hR1:∀ b o,R1 b=some o→R' b=some o:=fun b o e=>by simp only [R',e]
 have hRo:∀ b o,R b=some o→R' b=some o:=fun b o e=>by simp only [R',(hold b o e).1];exact e
 have ql:∀ r,r < rows.length→q' r=q r:=fun r h=>if_pos h
 have qn:∀ r,q' (rows.length+r)=q1 r:=fun r=>by simp only [q'];rw [if_neg (by omega)];congr 1;omega
 have hqq:q.Le q':=fun r x e=>by rw [ql r (C.rok.fresh r x e)];exact e
 have cs':∀ (j:Nat) z,(rows++rows1)[j]?=some z→(j < rows.length∧rows[j]?=some z)∨(∃ r,j=rows.length+r∧rows1[r]?=some z):=fun j z hz=>by
  rcases Nat.lt_or_ge j rows.length with h|h
  ·rw [List.getElem?_append_left h] at hz;exact .inl ⟨h,hz⟩
  ·rw [List.getElem?_append_right h] at hz;exact .inr ⟨j-rows.length,by omega,hz⟩
 have upR:∀ r z,rows1[r]?=some z→RowOK R' m1 q' (rows.length+r) z:=fun r z hz=>by
  have hs:=hsh z (List.mem_of_getElem? hz)
  have h:=C1.rok.row r z hz
  have rr:∀ {Q Q':Loc} {j j' k:Nat} {els:List V},Q' j'=Q j→RowR R1 m1 Q j k els→RowR R' m1 Q' j' k els:=fun {Q Q' j j' k els} e ⟨ob,cap,x1,x2,x3,x4,x5⟩ =>
   ⟨ob,cap,e.trans x1,x2,x3,x4,fun b hb=>let ⟨arr,T,fz,y1,y2,y3,y4⟩:=x5 b hb;⟨arr,T,fz,hR1 b _ y1,y2,y3,y4⟩⟩
  cases z with
  | dead=>trivial
  | bx=>cases hs
  | rowq=>cases hs
  | row k els=>exact rr (qn r) h
  | byt E l =>
   obtain ⟨b,cap,arr,x1,x2,x3,x4,x5⟩:=h
   exact ⟨b,cap,arr,(qn r).trans x1,x2,x3,hR1 b _ x4,x5⟩
  | pack Q subs=>exact ⟨fun j els hj=>rr (Q:=Q) (Q':=Q) rfl (h.1 j els hj),h.2⟩
  | fz enc l =>
   obtain ⟨ob,cap,k,x1,x2⟩:=h
   exact ⟨ob,cap,k,(qn r).trans x1,x2⟩
  | mp kt et kk enc ents =>
   obtain ⟨b,es,clock,x1,x2,x3⟩:=h
   exact ⟨b,es,clock,(qn r).trans x1,hR1 b _ x2,x3⟩
 refine ⟨u,he,_,_,R',m1,q',hk,⟨⟨?_,?_,C1.sit.mem,?_,C1.sit.glob⟩,⟨?_,?_,?_⟩⟩,hm1,hqq,?_⟩
 ·exact C.sit.bel.then C1.sit.bel fun b hb=>by cases hb
 ·intro b o hb
  simp only [R'] at hb
  split at hb
  ·rename_i o' e
   cases hb
   obtain ⟨g1,g2,g3⟩:=C1.sit.own b o e
   refine ⟨.inl ?_,g2,g3⟩
   rcases g1 with g1|g1
   ·exact Nat.le_trans C.sit.bel.size g1
   ·cases g1
  ·obtain ⟨g1,g2,g3⟩:=hold b o hb
   exact ⟨(C.sit.own b o hb).1,g2,g3⟩
 ·intro b o hb hlt hx
  exact C.sit.low b o (C1.sit.low b o hb (Nat.lt_of_lt_of_le hlt C.sit.bel.size) (by simp)) hlt hx
 ·intro r x hr
  by_cases h1:r < rows.length
  ·simp;omega
  ·have e:q' r=q1 (r-rows.length):=if_neg h1
   rw [e] at hr
   have:=C1.rok.fresh _ _ hr
   simp;omega
 ·intro j z hz
  rcases cs' j z hz with ⟨g1,g2⟩|⟨r,rfl,g2⟩
  ·refine (C.rok.row j z g2).up hm1 hqq fun hy b hb=>?_
   obtain ⟨o,ho⟩:=z1_ (C.rok.row j z g2) hy hb
   rw [hRo b o ho,ho]
  ·exact upR r z g2
 ·intro j j' z z' b hz hz' hy hy' hb hb'
  have old:∀ j z,j < rows.length→rows[j]?=some z→z.mut=true→Occ q' j z b→Occ q j z b∧∃ o,R b=some o:=fun j z g1 g2 hy hb=>by
   have h:=occ_q (ql j g1).symm hb
   exact ⟨h,z1_ (C.rok.row j z g2) hy h⟩
  have new:∀ r z,rows1[r]?=some z→z.mut=true→Occ q' (rows.length+r) z b→Occ q1 r z b∧∃ o,R1 b=some o:=fun r z g2 hy hb=>by
   have h:=occ_q (r:=rows.length+r) (r':=r) (q':=q1) (qn r).symm hb
   exact ⟨h,z1_ (C1.rok.row r z g2) hy h⟩
  rcases cs' j z hz with ⟨g1,g2⟩|⟨r,rfl,g2⟩<;>rcases cs' j' z' hz' with ⟨g1',g2'⟩|⟨r',rfl,g2'⟩
  ·exact C.rok.apart j j' z z' b g2 g2' hy hy' (old j z g1 g2 hy hb).1 (old j' z' g1' g2' hy' hb').1
  ·obtain ⟨-,o,ho⟩:=old j z g1 g2 hy hb
   obtain ⟨-,o',ho'⟩:=new r' z' g2' hy' hb'
   rw [(hold b o ho).1] at ho'
   cases ho'
  ·obtain ⟨-,o,ho⟩:=old j' z' g1' g2' hy' hb'
   obtain ⟨-,o',ho'⟩:=new r z g2 hy hb
   rw [(hold b o ho).1] at ho'
   cases ho'
  ·have:=C1.rok.apart r r' z z' b g2 g2' hy hy' (new r z g2 hy hb).1 (new r' z' g2' hy' hb').1
   rw [this]
 ·cases hvu with
  | @agg _ _ us hl hel =>
   refine .agg (by simpa using hl) fun i v u e e'=>?_
   rw [List.getElem?_map] at e
   obtain ⟨c,hc',rfl⟩:=Option.map_eq_some_iff.1 e
   have h:=hel i c u hc' e'
   rcases hcp c (List.mem_of_getElem? hc') with hp|⟨r,rfl⟩
   ·have:shV rows.length c=c:=by cases c<;>first|rfl|cases hp
    rw [this]
    exact xf_ hp h
   ·cases h with
    | own h=>exact .own ((qn r).trans h)
end
end Gv
end PartFo3
section PartM3
namespace Gv
open Go Gp
def Vv (f:List FileS) (g:List Gp.Node) (j o:Nat):Bs:=((qcb_ f g).getD j []).getD o []
def Vi (f:List FileS) (g:List Gp.Node) (i k:Nat):Bs:=q1o_ (qcb_ f g) (inP g i k)
def catI (f:List FileS) (g:List Gp.Node) (i:Nat):Nat→Bs
 | 0=>[]
 | k+1=>catI f g i k++Vi f g i k
end Gv
end PartM3
section PartM4
namespace Gv
open Go Gp
structure Sh (f:List FileS) (g:List Gp.Node) (m:MachS):Prop where
 mg:m.g=g
 mf:m.f=f
 np:m.p.length=g.length
 nq:m.pipes.length=(qr_ g).length
 got:∀ i,i < g.length→(pr m i).got.length=nI g i
 out:∀ i,i < g.length→(pr m i).out.length=nO g i
 pos:∀ i,i < g.length→0≤(pr m i).pos∧(pr m i).pos≤(nI g i:Int)
def ps (m:MachS) (i:Nat):Nat:=(pr m i).pos.toNat
def jN (g:List Gp.Node) (i k:Nat):Nat:=(inP g i k).node.toNat
def oN (g:List Gp.Node) (i k:Nat):Nat:=(inP g i k).out.toNat
variable {f:List FileS} {g:List Gp.Node} {rm:Int} {m m':MachS} {c c' e e':Nat→Nat→Nat} {i k:Nat}
structure PI (f:List FileS) (g:List Gp.Node) (m:MachS) (c e:Nat→Nat→Nat) (i:Nat):Prop where
 rd:(pr m i).read=true→(∀ o,o < nO g i→(Vv f g i o).take (e i o)=Vv f g i o)∧∀ k,gotK m i k=[]
 ov:(pr m i).over=true→(pr m i).read=true∧∀ o,outK m i o=[]
 po:(pr m i).read=false→ps m i < nI g i∨nI g i=0
 nx:(pr m i).read=false→∀ k,ps m i < k→c i k=0
 be:(pr m i).read=false→wv_ (ndG g i)=true→(Vv f g i 0).take (e i 0)=catI f g i (ps m i)++comp ((Vi f g i (ps m i)).take (c i (ps m i)))∧∀ k,gotK m i k=if k=ps m i then rest ((Vi f g i k).take (c i k)) else []
 ea:(pr m i).read=false→ya_ (ndG g i)=true→(Vv f g i 0).take (e i 0)=put (zq_ (ndG g i).c (qc_ (comp ((Vi f g i 0).take (c i 0)))))∧gotK m i 0=rest ((Vi f g i 0).take (c i 0))
 si:(pr m i).read=false→(ndG g i).kind=5→gotK m i 0=[]
 ot:(pr m i).read=false→wv_ (ndG g i)=false→ya_ (ndG g i)=false→(ndG g i).kind≠5→(∀ o,e i o=0)∧∀ k,k < nI g i→gotK m i k=(Vi f g i k).take (c i k)
 sk:(ndG g i).kind=5→m.sunk=(Vi f g i 0).take (c i 0)
structure QI (f:List FileS) (g:List Gp.Node) (rm:Int) (m:MachS) (c e:Nat→Nat→Nat) (i k:Nat):Prop where
 em:∃ t,(Vi f g i k).take (e (jN g i k) (oN g i k))=t++outK m (jN g i k) (oN g i k)∧((qu m (pix g i k)).shut=false→t=(Vi f g i k).take (c i k)++(qu m (pix g i k)).b)
 cl:(qu m (pix g i k)).closed=(pr m (jN g i k)).over
 ck:qi_ (qu m (pix g i k))=0
 rm:(qu m (pix g i k)).room=if (ndG g (jN g i k)).kind=2 then 0 else rm
 sh:(qu m (pix g i k)).shut=true→(pr m i).read=true∧vg_ (ndG g i)=true
 dn:(k < ps m i∨(pr m i).read=true)→(qu m (pix g i k)).shut=true∨((qu m (pix g i k)).closed=true∧(qu m (pix g i k)).b=[]∧(Vi f g i k).take (c i k)=Vi f g i k)
structure Inv (f:List FileS) (g:List Gp.Node) (rm:Int) (m:MachS) (c e:Nat→Nat→Nat):Prop where
 sh:Sh f g m
 pi:∀ i,i < g.length→PI f g m c e i
 qi:∀ i k,i < g.length→k < nI g i→QI f g rm m c e i k
theorem PI.congr (h:PI f g m c e i) (h1:pr m' i=pr m i) (h2:c' i=c i) (h3:e' i=e i) (h4:(ndG g i).kind=5→m'.sunk=m.sunk):PI f g m' c' e' i:=by
 have hg:∀ k,gotK m' i k=gotK m i k:=fun k=>by unfold gotK;rw [h1]
 have ho:∀ k,outK m' i k=outK m i k:=fun k=>by unfold outK;rw [h1]
 have hp:ps m' i=ps m i:=by unfold ps;rw [h1]
 refine ⟨fun a=>?_,fun a=>?_,fun a=>?_,fun a=>?_,fun a b=>?_,fun a b=>?_,fun a b=>?_,fun a b d e=>?_,fun a=>?_⟩
 ·rw [h1] at a;rw [h3];exact ⟨(h.rd a).1,fun k=>by rw [hg];exact (h.rd a).2 k⟩
 ·rw [h1] at a;rw [h1];exact ⟨(h.ov a).1,fun k=>by rw [ho];exact (h.ov a).2 k⟩
 ·rw [h1] at a;rw [hp];exact h.po a
 ·rw [h1] at a;rw [hp,h2];exact h.nx a
 ·rw [h1] at a;rw [hp,h2,h3];exact ⟨(h.be a b).1,fun k=>by rw [hg];exact (h.be a b).2 k⟩
 ·rw [h1] at a;rw [hg,h2,h3];exact h.ea a b
 ·rw [h1] at a;rw [hg];exact h.si a b
 ·rw [h1] at a;rw [h2,h3];exact ⟨(h.ot a b d e).1,fun k hk=>by rw [hg];exact (h.ot a b d e).2 k hk⟩
 ·rw [h4 a,h2];exact h.sk a
theorem QI.congr (h:QI f g rm m c e i k) (h1:qu m' (pix g i k)=qu m (pix g i k)) (h2:outK m' (jN g i k) (oN g i k)=outK m (jN g i k) (oN g i k)) (h3:(pr m' (jN g i k)).over=(pr m (jN g i k)).over) (h4:(pr m' i).read=(pr m i).read) (h5:ps m' i=ps m i) (h6:c' i k=c i k) (h7:e' (jN g i k) (oN g i k)=e (jN g i k) (oN g i k)):QI f g rm m' c' e' i k:=by
 refine ⟨?_,?_,?_,?_,?_,?_⟩
 ·rw [h1,h2,h6,h7];exact h.em
 ·rw [h1,h3];exact h.cl
 ·rw [h1];exact h.ck
 ·rw [h1];exact h.rm
 ·rw [h1,h4];exact h.sh
 ·rw [h1,h4,h5,h6];exact h.dn
theorem GF.jo (G:GF g) (hi:i < g.length) (hk:k < nI g i):inP g i k=⟨(jN g i k:Int),(oN g i k:Int)⟩∧jN g i k < i∧oN g i k < nO g (jN g i k)∧jN g i k < g.length:=by
 obtain ⟨j,o,h1,h2,h3⟩:=G.port i hi k hk
 have hj:jN g i k=j:=by unfold jN;rw [h1];rfl
 have ho:oN g i k=o:=by unfold oN;rw [h1];rfl
 rw [hj,ho]
 exact ⟨h1,h2,h3,by omega⟩
theorem GF.same (G:GF g) {i' k':Nat} (hi:i < g.length) (hk:k < nI g i) (hi':i' < g.length) (hk':k' < nI g i') (h1:jN g i k=jN g i' k') (h2:oN g i k=oN g i' k'):i=i'∧k=k' :=
 G.uniq hi hi' hk hk' (by rw [(G.jo hi hk).1,(G.jo hi' hk').1,h1,h2])
theorem Sh.rdr (S:Sh f g m) (G:GF g) (hi:i < g.length) (hk:k < nI g i):rdr m (jN g i k) (oN g i k)=pix g i k:=by
 unfold Gv.rdr
 rw [S.mg,←(G.jo hi hk).1,G.reader hi hk]
theorem q7m_ {q:PipeS} (h:qi_ q=0) (b:Bs):qi_ (wo_ q b)=0:=by
 unfold wo_
 by_cases hs:q.shut=true
 ·rw [if_pos hs];exact h
 ·rw [if_neg hs]
  have hs':q.shut=false:=by simpa using hs
  unfold qi_ at h ⊢
  dsimp only
  split at h
  ·cases h
  ·rename_i h1
   split at h
   ·cases h
   ·rename_i h2
    rw [if_neg h1,if_neg,if_neg (by simp [hs'])]
    unfold xs_
    rw [if_neg hs,List.length_append,List.length_take]
    split<;>omega
theorem q7l_ (q:PipeS) (b:Bs):xs_ q b≤b.length:=by
 unfold xs_
 split
 ·exact Nat.le_refl _
 ·split<;>omega
theorem q8k_ (S:Sh f g m) (hi:i < g.length) (j:Nat):pr (doW m i k) j=if j=i then setOut (pr m i) k ((outK m i k).drop (xs_ (qu m (rdr m i k)) (outK m i k))) else pr m j:=by
 unfold doW
 rw [xe_ (by show i < m.p.length;rw [S.np];exact hi),qjy_]
theorem q55_ (S:Sh f g m) (hi:i < g.length) (hk:k < nO g i) (j o:Nat):outK (doW m i k) j o=if j=i∧o=k then (outK m i k).drop (xs_ (qu m (rdr m i k)) (outK m i k)) else outK m j o:=by
 unfold outK
 rw [q8k_ S hi]
 by_cases hj:j=i
 ·subst hj
  rw [if_pos rfl]
  unfold setOut
  dsimp only
  rw [xy_]
  by_cases ho:o=k
  ·subst ho
   rw [if_pos ⟨rfl,by rw [S.out j hi];exact hk⟩,if_pos ⟨rfl,rfl⟩]
   rfl
  ·rw [if_neg (fun h=>ho h.1.symm),if_neg (fun h=>ho h.2)]
 ·rw [if_neg hj,if_neg (fun h=>hj h.1)]
theorem zdh_ (S:Sh f g m) (G:GF g) {r l:Nat} (hr:r < g.length) (hl:l < nI g r) (x:Nat):qu (doW m (jN g r l) (oN g r l)) x=if x=pix g r l then wo_ (qu m (pix g r l)) (outK m (jN g r l) (oN g r l)) else qu m x:=by
 unfold doW
 rw [za1_,S.rdr G hr hl,qqo_ (by rw [S.nq];exact q1k_ hr hl)]
end Gv
end PartM4
section PartM5
namespace Gv
open Go Gp
variable {f:List FileS} {g:List Gp.Node} {rm:Int} {m m':MachS} {c c' e e':Nat→Nat→Nat} {i k:Nat}
theorem v9_ (m:MachS) (i:Nat):∀ n,(qy_ m i n).length=m.pipes.length
 | 0=>rfl
 | n+1=>by rw [qy_,List.length_set,v9_ m i n]
theorem qcx_ (S:Sh f g m) (G:GF g) (hi:i < g.length):∀ n,n≤nO g i→∀ r l,r < g.length→l < nI g r→(qy_ m i n).getD (pix g r l) zP=if jN g r l=i∧oN g r l < n then vm_ (qu m (pix g r l)) else qu m (pix g r l)
 | 0,_,r,l,hr,hl=>by
  rw [if_neg (by omega)]
  rfl
 | n+1,hn,r,l,hr,hl=>by
  obtain ⟨r',l',hr',hl',h1,h2⟩:=G.rd hi (show n < nO g i by omega)
  have hj:jN g r' l'=i:=by unfold jN;rw [h1];rfl
  have hO:oN g r' l'=n:=by unfold oN;rw [h1];rfl
  have hrd:rdr m i n=pix g r' l':=by rw [←hj,←hO];exact S.rdr G hr' hl'
  rw [qy_,xy_,hrd,qcx_ S G hi n (by omega) r l hr hl]
  by_cases h:pix g r' l'=pix g r l
  ·obtain ⟨e1,e2⟩:=q1j_ hr' hr hl' hl h
   subst e1 e2
   rw [if_pos ⟨rfl,by rw [v9_,S.nq];exact q1k_ hr' hl'⟩,qcx_ S G hi n (by omega) r' l' hr' hl',if_neg (by omega),if_pos (by omega)]
  ·rw [if_neg (fun h3=>h h3.1)]
   have h4:¬ (jN g r l=i∧oN g r l=n):=fun h5=>h (by
    obtain ⟨a,b⟩:=G.same hr' hl' hr hl (by rw [hj,h5.1]) (by rw [hO,h5.2])
    rw [a,b])
   by_cases h6:jN g r l=i∧oN g r l < n
   ·rw [if_pos h6,if_pos ⟨h6.1,by omega⟩]
   ·rw [if_neg h6,if_neg (by omega)]
theorem qyd_ {q:PipeS} (h:qi_ q=0):vm_ q=⟨q.b,q.room,true,q.shut⟩:=if_pos h
theorem q1r_ (S:Sh f g m) (hi:i < g.length) (j:Nat):pr (wp_ m i) j=if j=i then ⟨(pr m i).got,(pr m i).pos,(pr m i).out,(pr m i).read,true⟩ else pr m j:=by
 unfold pr wp_
 dsimp only
 rw [xy_]
 by_cases h:i=j
 ·subst h
  rw [if_pos ⟨rfl,by rw [S.np];exact hi⟩,if_pos rfl]
  rfl
 ·rw [if_neg (fun h2=>h h2.1),if_neg (fun h2=>h h2.symm)]
theorem qai_:∀ a b:List Bs,(catL a b).length=a.length
 | [],_=>by simp [catL]
 | a::r,[]=>by simp [catL]
 | a::r,b::s=>by simp [catL,qai_ r s]
theorem qn9_:∀ (a b:List Bs) (o:Nat),o < a.length→(catL a b).getD o []=a.getD o []++b.getD o []
 | [],_,o,h=>by simp at h
 | a::r,[],o,h=>by simp [catL]
 | a::r,b::s,0,h=>by simp [catL]
 | a::r,b::s,o+1,h=>by
  have:=qn9_ r s o (by simpa using h)
  simpa [catL] using this
end Gv
end PartM5
section PartM6
namespace Gv
open Go Gp
variable {f:List FileS} {g:List Gp.Node} {rm:Int} {m m':MachS} {c c' e e':Nat→Nat→Nat} {i k:Nat}
theorem q6h_ (S:Sh f g m) (hi:i < g.length):pr (z5_ m i)=fun j=>if j=i then w3_ (ndG g i) f (pr m i) else pr m j:=by
 funext j
 unfold z5_
 rw [xe_ (by rw [S.np];exact hi),S.mg,S.mf]
end Gv
end PartM6
section PartM7
namespace Gv
open Go Gp
variable {f:List FileS} {g:List Gp.Node} {rm:Int} {m m':MachS} {c c' e e':Nat→Nat→Nat} {i k:Nat}
def qi2_ (q:PipeS):PipeS:=⟨q.b.drop 8,q.room,q.closed,q.shut⟩
theorem q4t_ {q:PipeS} (h:qi_ q=0):qi_ (qi2_ q)=0:=by
 unfold qi_ at h ⊢
 unfold qi2_
 dsimp only
 split at h
 ·cases h
 ·rename_i h1
  split at h
  ·cases h
  ·rename_i h2
   split at h
   ·cases h
   ·rename_i h3
    rw [if_neg h1,if_neg (by rw [List.length_drop];omega),if_neg]
    intro h4
    refine h3 ⟨h4.1,fun h5=>h4.2 (by rw [h5];rfl)⟩
def bitM (m:MachS) (x:Nat):MachS:=setQ m x (qi2_ (qu m x))
end Gv
end PartM7
section PartM8
namespace Gv
open Go Gp
variable {f:List FileS} {g:List Gp.Node} {rm:Int} {m m':MachS} {c c' e e':Nat→Nat→Nat} {i k:Nat}
inductive StepC (g:List Gp.Node) (m:MachS) (i:Nat) (m':MachS):Prop
 | write (k:Nat) (hk:k < nO g i) (ho:(pr m i).over=false) (hw:canW m i k=true) (h:m'=doW m i k)
 | close (ho:(pr m i).over=false) (hn:∀ k,outK m i k=[]) (hr:(pr m i).read=true) (h:m'=wp_ m i)
 | source (ho:(pr m i).over=false) (hn:∀ k,outK m i k=[]) (hr:(pr m i).read=false) (h0:nI g i=0) (h:m'=z5_ m i)
 | bite (ho:(pr m i).over=false) (hn:∀ k,outK m i k=[]) (hr:(pr m i).read=false) (hp:ps m i < nI g i) (hb:(qu m (pix g i (ps m i))).b≠[]) (h:m'=xk_ (bitM m (pix g i (ps m i))) i ((qu m (pix g i (ps m i))).b.take 8))
 | last (ho:(pr m i).over=false) (hn:∀ k,outK m i k=[]) (hr:(pr m i).read=false) (hp:ps m i+1=nI g i) (hb:(qu m (pix g i (ps m i))).b=[]) (hc:(qu m (pix g i (ps m i))).closed=true) (h:m'=z5_ (setP m i (z8_ (pr m i))) i)
 | next (ho:(pr m i).over=false) (hn:∀ k,outK m i k=[]) (hr:(pr m i).read=false) (hp:ps m i+1 < nI g i) (hb:(qu m (pix g i (ps m i))).b=[]) (hc:(qu m (pix g i (ps m i))).closed=true) (h:m'=setP m i (z8_ (pr m i)))
theorem q85_ (S:Sh f g m) (hi:i < g.length):(pr m i).out.any (fun b=>decide (b≠[]))=true↔∃ k,k < nO g i∧outK m i k≠[]:=by
 rw [List.any_eq_true]
 constructor
 ·rintro ⟨b,hb,h⟩
  obtain ⟨k,hk,rfl⟩:=List.getElem_of_mem hb
  refine ⟨k,by rw [←S.out i hi];exact hk,?_⟩
  unfold outK
  rw [List.getD_eq_getElem?_getD,List.getElem?_eq_getElem hk]
  simpa using h
 ·rintro ⟨k,hk,h⟩
  have hk:k < (pr m i).out.length:=by rw [S.out i hi];exact hk
  refine ⟨_,List.getElem_mem hk,?_⟩
  unfold outK at h
  rw [List.getD_eq_getElem?_getD,List.getElem?_eq_getElem hk] at h
  simpa using h
theorem zaq_ (S:Sh f g m) (hi:i < g.length) (hk:nO g i≤k):outK m i k=[]:=by
 unfold outK
 rw [List.getD_eq_getElem?_getD,List.getElem?_eq_none (by rw [S.out i hi];exact hk)]
 rfl
theorem zc7_ (S:Sh f g m) (hi:i < g.length) (h:¬ (pr m i).out.any (fun b=>decide (b≠[]))=true) (k:Nat):outK m i k=[]:=by
 rcases Nat.lt_or_ge k (nO g i) with h1|h1
 ·exact Decidable.byContradiction fun h2=>h ((q85_ S hi).2 ⟨k,h1,h2⟩)
 ·exact zaq_ S hi h1
theorem qgb_ (h:(qv_ m i).2≠0):(qv_ m i).1=m:=by
 unfold qv_ at h ⊢
 split
 ·rfl
 ·rename_i h1
  rw [if_neg h1] at h
  split
  ·rename_i h2
   rw [if_pos h2] at h
   split
   ·rename_i h3
    rw [h3] at h
    exact absurd rfl h
   ·rfl
  ·rename_i h2
   rw [if_neg h2] at h
   split
   ·rename_i h3
    rw [if_pos h3] at h
    exact absurd rfl h
   ·rename_i h3
    rw [if_neg h3] at h
    split
    ·rename_i h4
     rw [h4] at h
     exact absurd rfl h
    ·rfl
theorem qh6_ (S:Sh f g m) (hi:i < g.length) (po:(pr m i).read=false→ps m i < nI g i∨nI g i=0) (h:(qv_ m i).2=0):StepC g m i (qv_ m i).1:=by
 have hx:insB m.g i+(pr m i).pos.toNat=pix g i (ps m i):=by rw [S.mg];rfl
 obtain ⟨r,hr⟩:∃ r,qv_ m i=r:=⟨_,rfl⟩
 rw [hr] at h ⊢
 unfold qv_ at hr
 split at hr
 ·subst hr;cases h
 ·rename_i h1
  have h1:(pr m i).over=false:=by simpa using h1
  split at hr
  ·rename_i h2
   split at hr
   ·rename_i k h3
    subst hr
    have h4:=List.find?_some h3
    have h5:=List.mem_of_find?_eq_some h3
    rw [List.mem_range,S.out i hi] at h5
    exact .write k h5 h1 h4 rfl
   ·subst hr;cases h
  ·rename_i h2
   have hn:=zc7_ S hi h2
   split at hr
   ·rename_i h3
    subst hr
    exact .close h1 hn h3 rfl
   ·rename_i h3
    have h3:(pr m i).read=false:=by simpa using h3
    split at hr
    ·rename_i m2 h4
     subst hr
     unfold wx_ at h4
     dsimp only at h4
     rw [hx] at h4
     split at h4
     ·rename_i h5
      rw [S.mg] at h5
      cases h4
      exact .source h1 hn h3 h5 rfl
     ·rename_i h5
      rw [S.mg] at h5
      have hp:ps m i < nI g i:=by
       rcases po h3 with h|h
       ·exact h
       ·exact absurd h h5
      split at h4
      ·rename_i h6
       cases h4
       exact .bite h1 hn h3 hp h6 rfl
      ·rename_i h6
       have h6:=Decidable.not_not.1 h6
       split at h4
       ·cases h4
       ·rename_i h7
        have h7:(qu m (pix g i (ps m i))).closed=true:=by simpa using h7
        have hp0:=(S.pos i hi).1
        rw [S.mg] at h4
        split at h4
        ·rename_i h8
         cases h4
         exact .last h1 hn h3 (by unfold ps;omega) h6 h7 rfl
        ·rename_i h8
         cases h4
         exact .next h1 hn h3 (by unfold ps at hp ⊢;omega) h6 h7 rfl
    ·subst hr;cases h
end Gv
end PartM8
section PartM9
namespace Gv
open Go Gp
variable {f:List FileS} {g:List Gp.Node} {rm:Int} {m m':MachS} {c c' e e':Nat→Nat→Nat} {i k:Nat}
def vr_ (g:List Gp.Node) (rm:Int) (p:Port):PipeS:=⟨[],if (g.getD p.node.toNat dN).kind=2 then 0 else rm,false,false⟩
def w2_ (n:Gp.Node):ProcS:=⟨List.replicate n.ins.length [],0,List.replicate (zh_ n).toNat [],false,false⟩
def qa4_ (g:List Gp.Node) (f:List FileS) (rm:Int):MachS:=⟨g,f,(qr_ g).map (vr_ g rm),g.map w2_,[]⟩
def wy_:List Nat→MachS × Bool × Bool→MachS × Bool × Bool
 | [],s=>s
 | i::r,s=>wy_ r ((qv_ s.1 i).1,s.2.1 && (pr (qv_ s.1 i).1 i).over,decide ((qv_ s.1 i).2=0) || s.2.2)
def rnd (m:MachS):MachS × Bool × Bool:=wy_ (List.range m.p.length) (m,true,false)
inductive FinN:Nat→MachS→MachS × Int→Prop
 | over {m:MachS} (h:(rnd m).2.1=true):FinN 0 m ((rnd m).1,0)
 | stuck {m:MachS} (h:(rnd m).2.1=false) (h2:(rnd m).2.2=false):FinN 0 m (zM,8)
 | more {m:MachS} {n:Nat} {r:MachS × Int} (h:(rnd m).2.1=false) (h2:(rnd m).2.2=true) (h3:FinN n (rnd m).1 r):FinN (n+1) m r
def lexD (N:Nat) (a b:Nat→Nat):Prop:=∃ j,j < N∧a j < b j∧∀ k,k < j→a k=b k
theorem q0c_:∀ N,WellFounded (lexD N)
 | 0=>⟨fun a=>⟨_,fun b h=>by obtain ⟨j,h,-⟩:=h;omega⟩⟩
 | N+1=>by
  have h:=(InvImage.wf (fun a:Nat→Nat=>(a 0,fun k=>a (k+1))) (Prod.lex (α:=Nat) (β:=Nat→Nat) ⟨(· < ·),Nat.lt_wfRel.wf⟩ ⟨lexD N,q0c_ N⟩).wf)
  refine Subrelation.wf (r:=InvImage _ _) (fun {a b} hab=>?_) h
  obtain ⟨j,h1,h2,h3⟩:=hab
  show Prod.Lex _ _ (a 0,_) (b 0,_)
  match j,h1,h2,h3 with
  | 0,_,h2,_=>exact Prod.Lex.left _ _ h2
  | j+1,h1,h2,h3 =>
   rw [h3 0 (by omega)]
   exact Prod.Lex.right _ ⟨j,by omega,h2,fun k hk=>h3 (k+1) (by omega)⟩
theorem qhn_ {N:Nat} {a b c:Nat→Nat} (h:lexD N a b) (k:lexD N b c):lexD N a c:=by
 obtain ⟨j,h1,h2,h3⟩:=h
 obtain ⟨l,k1,k2,k3⟩:=k
 rcases Nat.lt_trichotomy j l with d|d|d
 ·exact ⟨j,h1,by rw [←k3 j d];exact h2,fun x hx=>by rw [h3 x hx,k3 x (by omega)]⟩
 ·subst d;exact ⟨j,h1,by omega,fun x hx=>by rw [h3 x hx,k3 x hx]⟩
 ·exact ⟨l,k1,by rw [h3 l d];exact k2,fun x hx=>by rw [h3 x (by omega),k3 x hx]⟩
def qbi_:Nat→(Nat→Nat)→Nat
 | 0,_=>0
 | n+1,h=>qbi_ n h+h n
theorem wn_ {a b:Nat→Nat}:∀ {n:Nat},(∀ k,k < n→a k=b k)→qbi_ n a=qbi_ n b
 | 0,_=>rfl
 | n+1,h=>by rw [qbi_,qbi_,wn_ fun k hk=>h k (by omega),h n (by omega)]
theorem qtp_ {a b:Nat→Nat}:∀ {n:Nat},(∀ k,k < n→a k≤b k)→qbi_ n a≤qbi_ n b
 | 0,_=>Nat.le_refl _
 | n+1,h=>by
  have:=qtp_ (n:=n) fun k hk=>h k (by omega)
  have:=h n (by omega)
  rw [qbi_,qbi_];omega
theorem qkh_ {a b:Nat→Nat} {l:Nat}:∀ {n:Nat},(∀ k,k < n→a k≤b k)→l < n→a l < b l→qbi_ n a < qbi_ n b
 | n+1,h,hl,h2=>by
  have h0:=h n (by omega)
  rw [qbi_,qbi_]
  rcases Nat.lt_or_ge l n with h3|h3
  ·have:=qkh_ (fun k hk=>h k (show k < n+1 by omega)) h3 h2
   omega
  ·have:l=n:=by omega
   subst this
   have:=qtp_ (n:=l) fun k hk=>h k (by omega)
   omega
def b2n (b:Bool):Nat:=if b=true then 0 else 1
def muA (g:List Gp.Node) (m:MachS) (i:Nat):Nat:=b2n (pr m i).over+b2n (pr m i).read+(nI g i-ps m i)
def muB (g:List Gp.Node) (m:MachS) (i:Nat):Nat:=qbi_ (nI g i) fun k=>(qu m (pix g i k)).b.length
def muO (g:List Gp.Node) (m:MachS) (i:Nat):Nat:=qbi_ (nO g i) fun k=>(outK m i k).length
def mu (g:List Gp.Node) (m:MachS) (n:Nat):Nat:=if n % 3=0 then muA g m (n / 3) else if n % 3=1 then muB g m (n / 3) else muO g m (n / 3)
theorem zc4_ (hi:i < g.length) (hA:∀ j, j < i→muA g m' j=muA g m j) (hB:∀ j, j < i→muB g m' j=muB g m j) (hO:∀ j, j < i→muO g m' j=muO g m j)
  (h:muA g m' i < muA g m i∨(muA g m' i=muA g m i∧(muB g m' i < muB g m i∨(muB g m' i=muB g m i∧muO g m' i < muO g m i)))):lexD (3*g.length) (mu g m') (mu g m):=by
 have low:∀ k,k < 3*i→mu g m' k=mu g m k:=fun k hk=>by
  unfold mu
  have:k / 3 < i:=by omega
  split
  ·exact hA _ this
  ·split
   ·exact hB _ this
   ·exact hO _ this
 have e0:(3*i) / 3=i:=by omega
 have e1:(3*i+1) / 3=i:=by omega
 have e2:(3*i+2) / 3=i:=by omega
 have m0:∀ m:MachS,mu g m (3*i)=muA g m i:=fun m=>by unfold mu;rw [if_pos (by omega),e0]
 have m1:∀ m:MachS,mu g m (3*i+1)=muB g m i:=fun m=>by unfold mu;rw [if_neg (by omega),if_pos (by omega),e1]
 have m2:∀ m:MachS,mu g m (3*i+2)=muO g m i:=fun m=>by unfold mu;rw [if_neg (by omega),if_neg (by omega),e2]
 rcases h with h|⟨h1,h|⟨h2,h⟩⟩
 ·exact ⟨3*i,by omega,by rw [m0,m0];exact h,low⟩
 ·refine ⟨3*i+1,by omega,by rw [m1,m1];exact h,fun k hk=>?_⟩
  rcases Nat.lt_or_ge k (3*i) with h3|h3
  ·exact low k h3
  ·have:k=3*i:=by omega
   rw [this,m0,m0];exact h1
 ·refine ⟨3*i+2,by omega,by rw [m2,m2];exact h,fun k hk=>?_⟩
  rcases Nat.lt_or_ge k (3*i) with h3|h3
  ·exact low k h3
  ·rcases Nat.lt_or_ge k (3*i+1) with h4|h4
   ·have:k=3*i:=by omega
    rw [this,m0,m0];exact h1
   ·have:k=3*i+1:=by omega
    rw [this,m1,m1];exact h2
theorem mu_by (hi:i < g.length) (hp:∀ j, j≠i→pr m' j=pr m j) (hq:∀ j l, j < i→l < nI g j→(qu m' (pix g j l)).b=(qu m (pix g j l)).b)
  (h:muA g m' i < muA g m i∨(muA g m' i=muA g m i∧(muB g m' i < muB g m i∨(muB g m' i=muB g m i∧muO g m' i < muO g m i)))):lexD (3*g.length) (mu g m') (mu g m):=by
 refine zc4_ hi (fun j hj=>?_) (fun j hj=>?_) (fun j hj=>?_) h
 ·unfold muA ps;rw [hp j (by omega)]
 ·exact wn_ fun k hk=>by rw [hq j k hj hk]
 ·exact wn_ fun k hk=>by unfold outK;rw [hp j (by omega)]
theorem qt2_ (S:Sh f g m) (hi:i < g.length) (b:Bs):(∀ j,j≠i→pr (xk_ m i b) j=pr m j)∧(∀ x,x≠insB g i→qu (xk_ m i b) x=qu m x)∧(qu (xk_ m i b) (insB g i)).b.length≤(qu m (insB g i)).b.length∧(pr (xk_ m i b) i).over=(pr m i).over∧(pr (xk_ m i b) i).pos=(pr m i).pos∧((pr m i).read=true→(pr (xk_ m i b) i).read=true):=by
 have hil:i < m.p.length:=by rw [S.np];exact hi
 have hs:∀ (M:MachS) (p:ProcS),M.p=m.p→(∀ j,j≠i→pr (setP M i p) j=pr m j)∧pr (setP M i p) i=p:=fun M p hM=>by
  have h1:i < M.p.length:=by rw [hM];exact hil
  refine ⟨fun j hj=>?_,?_⟩
  ·rw [xe_ h1,if_neg hj]
   unfold pr;rw [hM]
  ·rw [xe_ h1,if_pos rfl]
 unfold xk_
 dsimp only
 split
 ·obtain ⟨a,b⟩:=hs ⟨m.g,m.f,m.pipes,m.p,m.sunk++(gotK m i (pr m i).pos.toNat++‹Bs›)⟩ (setGot (pr m i) (pr m i).pos.toNat []) rfl
  refine ⟨a,fun x _=>rfl,Nat.le_refl _,?_,?_,fun h=>?_⟩
  ·rw [b];rfl
  ·rw [b];rfl
  ·rw [b];exact h
 ·split
  ·refine ⟨(hs m _ rfl).1,fun x _=>rfl,Nat.le_refl _,?_,?_,fun h=>?_⟩
   ·rw [(hs m _ rfl).2];rfl
   ·rw [(hs m _ rfl).2];rfl
   ·rw [(hs m _ rfl).2];exact h
  ·split
   ·rw [S.mg]
    obtain ⟨a1,a2⟩:=hs m (setGot (pr m i) (pr m i).pos.toNat (gotK m i (pr m i).pos.toNat++b)) rfl
    obtain ⟨M,hM⟩:∃ M,setP m i (setGot (pr m i) (pr m i).pos.toNat (gotK m i (pr m i).pos.toNat++b))=M:=⟨_,rfl⟩
    rw [hM] at a1 a2 ⊢
    have hML:i < M.p.length:=by rw [←hM];show i < (m.p.set _ _).length;rw [List.length_set];exact hil
    have hqM:∀ x,qu M x=qu m x:=fun x=>by rw [←hM];rfl
    have hpF:∀ j,pr (z5_ (setQ M (insB g i) (yy_ (qu m (insB g i)))) i) j=if j=i then w3_ (ndG M.g i) M.f (pr M i) else pr M j:=fun j=>by
     unfold z5_
     rw [xe_ (by exact hML)]
     rfl
    have hqF:∀ x,qu (z5_ (setQ M (insB g i) (yy_ (qu m (insB g i)))) i) x=qu (setQ M (insB g i) (yy_ (qu m (insB g i)))) x:=fun x=>rfl
    refine ⟨fun j hj=>?_,fun x hx=>?_,?_,?_,?_,fun h=>?_⟩
    ·rw [hpF,if_neg hj];exact a1 j hj
    ·rw [hqF]
     unfold qu setQ
     rw [xy_,if_neg (fun h=>hx h.1.symm)]
     exact hqM x
    ·rw [hqF]
     unfold qu setQ
     rw [xy_]
     split
     ·exact Nat.zero_le _
     ·rw [←hM];exact Nat.le_refl _
    ·rw [hpF,if_pos rfl];show (pr M i).over=_;rw [a2];rfl
    ·rw [hpF,if_pos rfl];show (pr M i).pos=_;rw [a2];rfl
    ·rw [hpF,if_pos rfl];rfl
   ·refine ⟨(hs m _ rfl).1,fun x _=>rfl,Nat.le_refl _,?_,?_,fun h=>?_⟩
    ·rw [(hs m _ rfl).2];rfl
    ·rw [(hs m _ rfl).2];rfl
    ·rw [(hs m _ rfl).2];exact h
theorem zbq_ (S:Sh f g m) (G:GF g) (hi:i < g.length) (h:StepC g m i m'):lexD (3*g.length) (mu g m') (mu g m):=by
 have hil:i < m.p.length:=by rw [S.np];exact hi
 cases h with
 | write k hk ho hw h =>
  subst h
  obtain ⟨r,l,hr,hl,h1,h2⟩:=G.rd hi hk
  have hj:jN g r l=i:=by unfold jN;rw [h1];rfl
  have hO:oN g r l=k:=by unfold oN;rw [h1];rfl
  have hqu:=zdh_ S G hr hl
  rw [hj,hO] at hqu
  have hpr:=q8k_ (k:=k) S hi
  have hout:=q55_ S hi hk
  refine mu_by hi (fun j hj=>by rw [hpr,if_neg hj]) (fun j s hj hs=>?_) (.inr ⟨?_,.inr ⟨?_,?_⟩⟩)
  ·rw [hqu,if_neg]
   intro h
   have:=qde_ (k':=l) hr (show j < r by omega) hs
   omega
  ·unfold muA ps;rw [hpr,if_pos rfl];rfl
  ·refine wn_ fun s hs=>?_
   rw [hqu,if_neg]
   intro h
   have:=qde_ (k':=l) hr h2 hs
   omega
  ·unfold canW at hw
   simp only [Bool.and_eq_true,decide_eq_true_eq,Bool.not_eq_true'] at hw
   obtain ⟨⟨⟨w1,w2⟩,w3⟩,w4⟩:=hw
   have hlen:0 < (outK m i k).length:=List.length_pos_iff.2 w1
   refine qkh_ (l:=k) (fun o ho=>?_) hk ?_
   ·rw [hout]
    split
    ·rename_i h;rw [h.2,List.length_drop];omega
    ·exact Nat.le_refl _
   ·rw [hout,if_pos ⟨rfl,rfl⟩,List.length_drop]
    omega
 | close ho hn hr h =>
  subst h
  have hpr:=q1r_ S hi
  refine mu_by hi (fun j hj=>by rw [hpr,if_neg hj]) (fun j s hj hs=>?_) (.inl ?_)
  ·have:=qcx_ S G hi (pr m i).out.length (by rw [S.out i hi];exact Nat.le_refl _) j s (by omega) hs
   show ((qy_ m i (pr m i).out.length).getD (pix g j s) zP).b=_
   rw [this]
   split
   ·unfold vm_;split<;>rfl
   ·rfl
  ·unfold muA ps
   rw [hpr,if_pos rfl,ho,hr]
   unfold b2n
   simp
 | source ho hn hr h0 h =>
  subst h
  have hpr:=q6h_ S hi
  refine mu_by hi (fun j hj=>by rw [hpr];simp [hj]) (fun j s hj hs=>rfl) (.inl ?_)
  unfold muA ps
  rw [hpr]
  simp only [if_true]
  rw [ho,hr]
  show b2n (pr m i).over+b2n true+(nI g i-(pr m i).pos.toNat) < _
  rw [ho]
  unfold b2n
  simp
 | bite ho hn hr hp hb h =>
  subst h
  have hxl:pix g i (ps m i) < m.pipes.length:=by rw [S.nq];exact q1k_ hi hp
  have SB:Sh f g (bitM m (pix g i (ps m i))):=⟨S.mg,S.mf,S.np,by show (m.pipes.set _ _).length=_;rw [List.length_set];exact S.nq,S.got,S.out,S.pos⟩
  obtain ⟨a1,a2,a3,a4,a5,a6⟩:=qt2_ SB hi ((qu m (pix g i (ps m i))).b.take 8)
  have hqB:∀ x,qu (bitM m (pix g i (ps m i))) x=if x=pix g i (ps m i) then qi2_ (qu m (pix g i (ps m i))) else qu m x:=fun x=>by
   unfold bitM;rw [qqo_ hxl]
  have hqle:∀ x,(qu (bitM m (pix g i (ps m i))) x).b.length≤(qu m x).b.length:=fun x=>by
   rw [hqB];split
   ·rename_i h;subst h
    unfold qi2_;rw [List.length_drop];omega
   ·exact Nat.le_refl _
  have hlt:(qu (bitM m (pix g i (ps m i))) (pix g i (ps m i))).b.length < (qu m (pix g i (ps m i))).b.length:=by
   rw [hqB,if_pos rfl]
   have:=List.length_pos_iff.2 hb
   unfold qi2_;rw [List.length_drop];omega
  have hcle:∀ x,(qu (xk_ (bitM m (pix g i (ps m i))) i ((qu m (pix g i (ps m i))).b.take 8)) x).b.length≤(qu (bitM m (pix g i (ps m i))) x).b.length:=fun x=>by
   by_cases hx:x=insB g i
   ·subst hx;exact a3
   ·rw [a2 x hx];exact Nat.le_refl _
  obtain ⟨M,hM⟩:∃ M,xk_ (bitM m (pix g i (ps m i))) i ((qu m (pix g i (ps m i))).b.take 8)=M:=⟨_,rfl⟩
  rw [hM] at a1 a2 a3 a4 a5 a6 hcle ⊢
  refine mu_by hi (fun j hj=>a1 j hj) (fun j s hj hs=>?_) ?_
  ·have h1:=qde_ (k':=ps m i) hi hj hs
   have h2:=qde_ (k':=0) hi hj hs
   rw [a2 _ (by unfold pix at h2 ⊢;omega),hqB,if_neg (by omega)]
  ·have hB:muB g M i < muB g m i := by
    refine qkh_ (l:=ps m i) (fun s hs=>?_) hp ?_
    ·exact Nat.le_trans (hcle _) (hqle _)
    ·exact Nat.lt_of_le_of_lt (hcle _) hlt
   have hps:ps M i=ps m i:=by unfold ps;rw [a5];rfl
   have hov:(pr M i).over=(pr m i).over:=a4
   have hA:muA g M i≤muA g m i:=by
    unfold muA
    rw [hps,hov,hr]
    unfold b2n
    split<;>split<;>simp
   rcases Nat.lt_or_ge (muA g M i) (muA g m i) with h|h
   ·exact .inl h
   ·exact .inr ⟨by omega,.inl hB⟩
 | last ho hn hr hp hb hc h =>
  subst h
  have hpr:∀ j,pr (z5_ (setP m i (z8_ (pr m i))) i) j=if j=i then w3_ (ndG m.g i) m.f (z8_ (pr m i)) else pr m j:=fun j=>by
   unfold z5_
   rw [xe_ (by show i < (m.p.set _ _).length;rw [List.length_set];exact hil),xe_ hil,xe_ hil,if_pos rfl]
   by_cases h:j=i
   ·rw [if_pos h,if_pos h];rfl
   ·rw [if_neg h,if_neg h,if_neg h]
  refine mu_by hi (fun j hj=>by rw [hpr,if_neg hj]) (fun j s hj hs=>rfl) (.inl ?_)
  have:=(S.pos i hi).1
  unfold muA ps
  rw [hpr,if_pos rfl,hr]
  show b2n (pr m i).over+b2n true+(nI g i-((pr m i).pos+1).toNat) < _
  rw [ho]
  unfold b2n
  simp
  omega
 | next ho hn hr hp hb hc h =>
  subst h
  have hpr:∀ j,pr (setP m i (z8_ (pr m i))) j=if j=i then z8_ (pr m i) else pr m j:=fun j=>xe_ hil _ j
  refine mu_by hi (fun j hj=>by rw [hpr,if_neg hj]) (fun j s hj hs=>rfl) (.inl ?_)
  have:=(S.pos i hi).1
  unfold muA
  unfold ps at hp ⊢
  rw [hpr,if_pos rfl]
  show b2n (pr m i).over+b2n (pr m i).read+(nI g i-((pr m i).pos+1).toNat) < _
  omega
end Gv
end PartM9
section PartM10
namespace Gv
open Go Gp
variable {f:List FileS} {g:List Gp.Node} {rm:Int} {m m':MachS} {c c' e e':Nat→Nat→Nat} {i k:Nat}
def Ok (f:List FileS) (g:List Gp.Node) (rm:Int) (m:MachS):Prop:=∃ c e,Inv f g rm m c e
theorem Ok.sh (h:Ok f g rm m):Sh f g m:=by obtain ⟨c,e,I⟩:=h;exact I.sh
theorem FinN.uniq {n n':Nat} {m:MachS} {r r':MachS × Int} (h:FinN n m r) (h':FinN n' m r'):n=n'∧r=r':=by
 induction h generalizing n' with
 | over h =>
  cases h' with
  | over=>exact ⟨rfl,rfl⟩
  | stuck h1=>rw [h] at h1;cases h1
  | more h1=>rw [h] at h1;cases h1
 | stuck h h2 =>
  cases h' with
  | over h1=>rw [h] at h1;cases h1
  | stuck=>exact ⟨rfl,rfl⟩
  | more h1 h3=>rw [h2] at h3;cases h3
 | more h h2 h3 ih =>
  cases h' with
  | over h1=>rw [h] at h1;cases h1
  | stuck h1 h4=>rw [h2] at h4;cases h4
  | more h1 h4 h5 =>
   obtain ⟨a,b⟩:=ih h5
   exact ⟨by rw [a],b⟩
def zn_ (m:MachS) (i:Int):MachS × Int:=if 0≤i∧i < (m.p.length:Int) then qv_ m i.toNat else (m,5)
def xi_:List Int→MachS→List Int→MachS × List Int
 | [],m,s=>(m,s)
 | i::r,m,s=>xi_ r (zn_ m i).1 (s++[(zn_ m i).2])
end Gv
end PartM10
section PartM11
namespace Gv
open Go Gp
end Gv
end PartM11
section PartQ1
namespace Gv
open Go Gp
variable [Glob]
theorem qav_ {sel:Sel} {x x':V} {r r':List V} (h:qd4_ sel x.cells x'.cells) (t:qcq_ sel r r'):qcq_ sel (x::r) (x'::r') :=
 ⟨by simp [t.1],fun i y y' h1 h2=>by
  cases i with
  | zero=>simp at h1 h2;subst h1 h2;exact h
  | succ i=>exact t.2 i y y' (by simpa using h1) (by simpa using h2)⟩
theorem q3j_ {sel:Sel}:qcq_ sel [] []:=⟨rfl,fun i x x' h=>by simp at h⟩
theorem qnt_ {sel:Sel} {a a' b b':List V} (h:qcq_ sel a a') (t:qcq_ sel b b'):qcq_ sel (a++b) (a'++b'):=by
 induction a generalizing a' with
 | nil =>
  cases a' with
  | nil=>exact t
  | cons x r=>exact absurd h.1 (by simp)
 | cons x r ih =>
  cases a' with
  | nil=>exact absurd h.1 (by simp)
  | cons x' r'=>exact qav_ (h.2 0 x x' rfl rfl) (ih ⟨by simpa using h.1,fun i y y' e e'=>h.2 (i+1) y y' (by simpa using e) (by simpa using e')⟩)
theorem qcd_ {sel:Sel} {v:V} (h:v.pure=true):ren1 sel v v:=by
 cases v<;>first|rfl|exact .inl rfl|cases h
theorem qaq_ {sel:Sel}:∀ {cs:List V},(∀ v∈cs,v.pure=true)→qd4_ sel cs cs
 | [],_=>trivial
 | v::r,h=>⟨qcd_ (h v (by simp)),qaq_ fun x hx=>h x (by simp [hx])⟩
theorem v1_ {sel:Sel} {a:List V} (h:∀ x∈a,∀ v∈x.cells,v.pure=true):qcq_ sel a a:=by
 induction a with
 | nil=>exact q3j_
 | cons x r ih=>exact qav_ (qaq_ (h x (by simp))) (ih fun y hy=>h y (by simp [hy]))
theorem q2r_ {α:Type _} (a:List α) (x y : α) (b:List α) {k:Nat} (h:k=a.length):(a++x::b).set k y=a++y::b:=by
 subst h
 rw [List.set_append_right _ _ (Nat.le_refl _)]
 simp
theorem qzo_ {α:Type _} (a:List α) (x : α) (b:List α) {k:Nat} (h:k=a.length):(a++x::b)[k]?=some x:=by
 subst h
 rw [List.getElem?_append_right (Nat.le_refl _)]
 simp
theorem V.Le.nil {α:Type} (enc : α→V):V.Le .nil (.sl enc []):=fun m u h=>by
 cases h
 exact .sl0 (Nat.zero_le _) fun _=>rfl
theorem LeL.cons {x y:V} {xs ys:List V} (h:x.cells.length=y.cells.length∧∀ (j:Nat) v v',x.cells[j]?=some v→y.cells[j]?=some v'→v.Le v') (t:LeL xs ys):LeL (x::xs) (y::ys) :=
 ⟨by simp [t.len],fun i a b h1 h2=>by
  cases i with
  | zero=>simp at h1 h2;subst h1 h2;exact h
  | succ i=>exact t.el i a b (by simpa using h1) (by simpa using h2)⟩
theorem LeL.app {a b c d:List V} (h:LeL a b) (t:LeL c d):LeL (a++c) (b++d):=by
 induction a generalizing b with
 | nil =>
  cases b with
  | nil=>exact t
  | cons x r=>exact absurd h.len (by simp)
 | cons x r ih =>
  cases b with
  | nil=>exact absurd h.len (by simp)
  | cons y s=>exact LeL.cons (h.el 0 x y rfl rfl) (ih ⟨by simpa using h.len,fun i a b e e'=>h.el (i+1) a b (by simpa using e) (by simpa using e')⟩)
noncomputable def x9_ (L:List Bs) (n k:Nat) (c:Option Bs):List V:=((List.range k).map fun j=>blV (put (part L n j)))++(match c with|none=>V.nil|some _=>.own 1)::List.replicate (n-k-1) V.nil
noncomputable def q8w_ (c:Option Bs):Row:=match c with|none=>.dead|some b=>.row 1 (b.map qd_)
def sofI (L:List Bs) (n i k:Nat) (c:Option Bs):Prop:=i≤L.length∧k < n∧k*L.length / n≤i∧i≤(k+1)*L.length / n∧c.getD []=put ((L.take i).drop (k*L.length / n))
theorem qwy_ {L:List Bs} {n k:Nat} {c:Option Bs} (h:k < n):(x9_ L n k c).length=n:=by
 simp [x9_];omega
theorem qat_ (L:List Bs) (n k:Nat) (c:Option Bs):(x9_ L n k c)[k]?=some (match c with|none=>V.nil|some _=>.own 1):=qzo_ _ _ _ (by simp)
theorem y3_ (L:List Bs) (n k:Nat) (c:Option Bs) (v:V):(x9_ L n k c).set k v=((List.range k).map fun j=>blV (put (part L n j)))++v::List.replicate (n-k-1) V.nil:=q2r_ _ _ _ _ (by simp)
theorem q68_ {L:List Bs} {n:Nat} (h:1≤n):List.replicate n V.nil=x9_ L n 0 none:=by
 obtain ⟨p,rfl⟩:∃ p,n=p+1:=⟨n-1,by omega⟩
 rfl
theorem qtl_ (L:List Bs) (n k:Nat) (c d:Option Bs) {sel:Sel} {v v':V} (h:ren1 sel v v') (hv:v.cells=[v]) (hv':v'.cells=[v']) (he:(match d with|none=>V.nil|some _=>.own 1)=v'):qcq_ sel ((x9_ L n k c).set k v) (x9_ L n k d):=by
 rw [y3_]
 unfold x9_
 rw [he]
 refine qnt_ (v1_ fun x hx w hw=>?_) (qav_ (by rw [hv,hv'];exact ⟨h,trivial⟩) (v1_ fun x hx w hw=>?_))
 ·obtain ⟨j,-,rfl⟩:=List.mem_map.1 hx
  simp [blV,V.cells] at hw
  subst hw;rfl
 ·rw [List.eq_of_mem_replicate hx] at hw
  simp [V.cells] at hw
  subst hw;rfl
theorem q2w_ (L:List Bs) (n k:Nat) {sel:Sel}:qcq_ sel (x9_ L n k none) (x9_ L n k none):=by
 have:=qtl_ L n k none none (sel:=sel) (v:=.nil) (v':=.nil) rfl rfl rfl rfl
 rwa [y3_] at this
theorem q2x_ (L:List Bs) (n k:Nat) (b d:Bs) {sel:Sel} (h:ren1 sel (.own 1) (.own 1)):qcq_ sel (x9_ L n k (some b)) (x9_ L n k (some d)):=by
 have:=qtl_ L n k (some b) (some d) (sel:=sel) (v:=.own 1) (v':=.own 1) h rfl rfl rfl
 rwa [y3_] at this
theorem q2u_ {L:List Bs} {n i k:Nat} {c:Option Bs} (h:sofI L n i k c) (hi:i < L.length) (hk:i < (k+1)*L.length / n):sofI L n (i+1) k (some (c.getD []++(L[i]++[10]))):=by
 obtain ⟨h1,h2,h3,h4,h5⟩:=h
 refine ⟨hi,h2,by omega,hk,?_⟩
 rw [h5]
 show put _++_=put _
 rw [List.take_succ_eq_append_getElem hi,List.drop_append_of_le_length (by simp;omega),y2_]
 simp [put]
theorem q2t_ {L:List Bs} {n i k:Nat} {c:Option Bs} (h:sofI L n i k c) (hi:i < L.length) (hk:(k+1)*L.length / n≤i):c.getD []=put (part L n k)∧sofI L n i (k+1) none:=by
 obtain ⟨h1,h2,h3,h4,h5⟩:=h
 have e:i=(k+1)*L.length / n:=by omega
 have hn:k+1 < n:=by
  rcases Nat.lt_or_ge (k+1) n with h|h
  ·exact h
  ·have:k+1=n:=by omega
   rw [this,Nat.mul_div_cancel_left _ (by omega)] at hk
   omega
 have hb:=qjv_ L.length n (k+1) (by omega)
 refine ⟨by rw [h5,e];rfl,h1,hn,by omega,Nat.le_trans (Nat.le_of_eq e) (Nat.le_trans (Nat.le_add_right _ _) hb.1),?_⟩
 rw [←e,List.drop_eq_nil_of_le (by simp;omega)]
 rfl
theorem qf3_ {L:List Bs} {n k:Nat} (h:k+1 < n):((List.range k).map fun j=>blV (put (part L n j)))++blV (put (part L n k))::List.replicate (n-k-1) V.nil=x9_ L n (k+1) none:=by
 unfold x9_
 rw [List.range_succ,List.map_append,List.append_assoc]
 obtain ⟨p,hp⟩:∃ p,n-k-1=p+1:=⟨n-k-2,by omega⟩
 rw [hp,show n-(k+1)-1=p by omega]
 rfl
theorem qj8_ {L:List Bs} {n k:Nat} {c:Option Bs} (h:sofI L n L.length k c):c.getD []=put (part L n k)∧∀ j,k < j→j < n→put (part L n j)=[]:=by
 obtain ⟨h1,h2,h3,h4,h5⟩:=h
 have hle:∀ j,k < j→L.length≤j*L.length / n:=fun j hj=>Nat.le_trans h4 (Nat.div_le_div_right (Nat.mul_le_mul_right _ hj))
 have ha:(k+1)*L.length / n=L.length∨L.length≤(k+1)*L.length / n:=.inr h4
 refine ⟨?_,fun j hj hjn=>?_⟩
 ·rw [h5]
  unfold Gp.part
  rw [List.take_of_length_le (Nat.le_refl _),List.take_of_length_le h4]
 ·unfold Gp.part
  rw [List.drop_eq_nil_of_le (Nat.le_trans (by rw [List.length_take];exact Nat.min_le_right _ _) (hle j hj))]
  rfl
theorem qw3_ {L:List Bs} {n k:Nat} (h:k < n) (hz:∀ j,k < j→j < n→put (part L n j)=[]):(zj_ L n).map blV=((List.range k).map fun j=>blV (put (part L n j)))++blV (put (part L n k))::List.replicate (n-k-1) (blV []):=by
 apply List.ext_getElem?
 intro j
 unfold zj_
 rw [List.map_map]
 rcases Nat.lt_trichotomy j k with hj|hj|hj
 ·rw [List.getElem?_append_left (by simpa using hj)]
  simp [hj,show j < n by omega]
 ·subst hj
  rw [qzo_ _ _ _ (by simp)]
  simp [h]
 ·rw [List.getElem?_append_right (by simp;omega)]
  simp only [List.length_map,List.length_range]
  obtain ⟨p,hp⟩:∃ p,j-k=p+1:=⟨j-k-1,by omega⟩
  rw [hp,List.getElem?_cons_succ]
  by_cases hjn:j < n
  ·rw [List.getElem?_replicate,if_pos (by omega)]
   simp [hjn,hz j hj hjn]
  ·rw [List.getElem?_eq_none (by simp;omega),List.getElem?_eq_none (by simp;omega)]
theorem qz9_ {v v':V} (hv:v.cells=[v]) (hv':v'.cells=[v']) (h:v.Le v'):v.cells.length=v'.cells.length∧∀ (j:Nat) x x',v.cells[j]?=some x→v'.cells[j]?=some x'→x.Le x':=by
 rw [hv,hv']
 refine ⟨rfl,fun j x x' e e'=>?_⟩
 cases j with
 | zero=>simp at e e';subst e e';exact h
 | succ j=>simp at e
theorem q2v_ {L:List Bs} {n k:Nat} {c:Option Bs} (h:sofI L n L.length k c) {v:V} (hv:v.cells=[v]) (hl:v.Le (blV (put (part L n k)))):LeL (((List.range k).map fun j=>blV (put (part L n j)))++v::List.replicate (n-k-1) V.nil) ((zj_ L n).map blV):=by
 have h2:=(qj8_ h).2
 rw [qw3_ h.2.1 h2]
 refine LeL.app (LeL.refl _) (LeL.cons (qz9_ hv rfl hl) ?_)
 generalize n-k-1=p
 induction p with
 | zero=>exact LeL.refl _
 | succ p ih=>exact LeL.cons (qz9_ rfl rfl (V.Le.nil qd_)) ih
noncomputable def qnh_ (L:List Bs) (n k:Nat) (c:Option Bs):List V:=((List.range k).map fun j=>blV (put (part L n j)))++(match c with|none=>V.nil|some b=>blV b)::List.replicate (n-k-1) V.nil
theorem qwz_ {L:List Bs} {n k:Nat} {c:Option Bs} (h:sofI L n L.length k c):LeL (qnh_ L n k c) ((zj_ L n).map blV):=by
 cases c with
 | none =>
  refine q2v_ h rfl ?_
  rw [←(qj8_ h).1]
  exact V.Le.nil qd_
 | some b =>
  refine q2v_ h rfl ?_
  rw [←(qj8_ h).1]
  exact V.Le.refl _
theorem qf4_ (L:List Bs) (n k:Nat) (c:Option Bs):∀ x∈qnh_ L n k c,zk_ x.cells=true:=by
 intro x hx
 unfold qnh_ at hx
 simp only [List.mem_append,List.mem_map,List.mem_cons] at hx
 rcases hx with ⟨j,-,rfl⟩|rfl|hx
 ·rfl
 ·cases c<;>rfl
 ·rw [List.eq_of_mem_replicate hx];rfl
end Gv
end PartQ1
section PartFo4
namespace Gv
open Go Go.RowKit Gw Gp
variable [Glob]
def q6_ (p:ProcS):V:=.agg [.own 3,.int .i64 p.pos,.own 4,.bool p.read,.bool p.over]
def focR (m:MachS) (i:Nat) (els:List V):Rows:=[.box [.sl qh_ m.g,.sl qq_ m.f,.own 1,.own 2,.sl qd_ m.sunk],.row 4 (m.pipes.map qk_),.rowq 5 (els.set i (q6_ (pr m i))),.row 1 ((pr m i).got.map blV),.row 1 ((pr m i).out.map blV)]
structure FocOK (m:MachS) (i:Nat) (els:List V):Prop where
 g:zt_ m.g=0
 f:qu_ m.f=0
 np:m.p.length=m.g.length
 nq:m.pipes.length=(qr_ m.g).length
 lt:i < m.g.length
 nl:els.length=m.g.length
 got:(pr m i).got.length=nI m.g i
 out:(pr m i).out.length=nO m.g i
 room:∀ p∈m.pipes,p.b.length≤400000000
 pe:∀ x∈els,zk_ x.cells=true
 big:∀ b∈(pr m i).got++(pr m i).out,b.length≤400000000
theorem vs_ {n:Gp.Node} (h:q5_ n=0):n.ins.length≤5:=by
 unfold q5_ at h
 split at h
 ·cases h
 ·split at h
  ·rename_i h1 h2
   exact absurd h h2
  ·split at h
   ·rename_i h3
    have h4:=h3.1
    unfold insN at h4
    split at h4
    ·simp only [Bool.and_eq_true,decide_eq_true_eq] at h4
     omega
    ·split at h4
     ·simp only [Bool.and_eq_true,decide_eq_true_eq] at h4
      omega
     ·simp only [decide_eq_true_eq] at h4
      omega
   ·cases h
theorem qko_:∀ {N:List Gp.Node},(∀ n∈N,n.ins.length≤5)→(qr_ N).length≤5*N.length
 | [],_=>by simp [qr_]
 | n::r,h=>by
  have h1:=h n (by simp)
  have h2:=qko_ (N:=r) fun x hx=>h x (by simp [hx])
  rw [show qr_ (n::r)=n.ins++qr_ r from rfl,List.length_append,List.length_cons]
  omega
theorem z0_ {N:List Gp.Node} (h:zt_ N=0):(qr_ N).length≤1000000000:=by
 have hg:=gf_of h
 have h1:=qko_ (N:=N) fun n hn=>by
  obtain ⟨i,hi,rfl⟩:=List.getElem_of_mem hn
  have:=vs_ (hg.node i hi)
  rwa [xb_ hi] at this
 have:=hg.len.2
 omega
theorem qs9_ {m:MachS} {i k:Nat} {els:List V} (h:FocOK m i els) (hk:k < (pr m i).out.length):rdr m i k < (qr_ m.g).length:=by
 have hg:=gf_of h.g
 unfold rdr ye_
 rw [List.idxOf_lt_length_iff]
 exact hg.all i h.lt k (by rw [←h.out];exact hk)
theorem qw_ {sel:Sel} {els:List V} {i:Nat} {p:ProcS} (hpe:∀ x∈els,zk_ x.cells=true) (h3:ren1 sel (.own 3) (.own 3)) (h4:ren1 sel (.own 4) (.own 4)):qcq_ sel (els.set i (q6_ p)) (els.set i (q6_ p)):=by
 refine ⟨rfl,fun j x x' e e'=>?_⟩
 rw [e] at e'
 cases e'
 rcases List.mem_or_eq_of_mem_set (List.mem_of_getElem? e) with h|rfl
 ·exact qaq_ (zs_ _ (hpe x h))
 ·exact ⟨h3,qcd_ rfl,h4,qcd_ rfl,qcd_ rfl,trivial⟩
theorem qaw_ {sel:Sel} {els:List V} {i:Nat} {x x':V} (hpe:∀ x∈els,zk_ x.cells=true) (hx:qd4_ sel x.cells x'.cells):qcq_ sel (els.set i x) (els.set i x'):=by
 refine ⟨by simp,fun j y y' e e'=>?_⟩
 by_cases h:i=j
 ·subst h
  by_cases hl:i < els.length
  ·rw [List.getElem?_set_self hl] at e e'
   cases e
   cases e'
   exact hx
  ·rw [List.getElem?_eq_none (by simp;omega)] at e
   cases e
 ·rw [List.getElem?_set_ne h] at e e'
  rw [e] at e'
  cases e'
  exact qaq_ (zs_ _ (hpe y (List.mem_of_getElem? e)))
end Gv
end PartFo4
section PartFo5
namespace Gv
open Go Go.RowKit Gw Gp
variable [Glob]
theorem q6i_ {P:Program} {f:FuncId} {T:qn_} (h:q1_ P f T):q1_ P f (fun args rows k=>T args rows fun v rows'=>∃ keep ex,rows'=keep++ex∧rows.length≤keep.length∧(∀ y∈keep,y.shut=true)∧v.pure=true∧k v keep):=by
 intro w0 m0 args rows k R m q w us C hv hT
 obtain ⟨h1,h2⟩:=h w0 m0 args rows _ R m q w us C hv hT
 refine ⟨h1,h2.mono fun e w' ⟨u,he,v,rows',R',m',q',⟨keep,ex,hr,hl,hs,hp,hk⟩,C',hm',hq',hvu⟩=>?_⟩
 subst hr
 let q2:Loc:=fun r=>if r < keep.length then q' r else none
 have ql:∀ r,r < keep.length→q2 r=q' r:=fun r h=>if_pos h
 have at':∀ (r:Nat) z,keep[r]?=some z→r < keep.length∧(keep++ex)[r]?=some z:=fun r z hz=>by
  have hr:=(List.getElem?_eq_some_iff.1 hz).1
  exact ⟨hr,by rw [List.getElem?_append_left hr];exact hz⟩
 refine ⟨u,he,v,keep,R',m',q2,hk,⟨C'.sit,⟨fun r x hx=>?_,fun r z hz=>?_,fun r r' z z' b hz hz' hm hm' hb hb'=>?_⟩⟩,hm',fun r x hx=>?_,xf_ hp hvu⟩
 ·simp only [q2] at hx
  split at hx
  ·assumption
  ·cases hx
 ·obtain ⟨g1,g2⟩:=at' r z hz
  have hsz:=hs z (List.mem_of_getElem? hz)
  have h:=C'.rok.row r z g2
  have e:=ql r g1
  cases z with
  | dead=>trivial
  | bx=>cases hsz
  | rowq=>cases hsz
  | row k els=>obtain ⟨ob,cap,x1,x2⟩:=h;exact ⟨ob,cap,e.trans x1,x2⟩
  | byt E l=>obtain ⟨b,cap,arr,x1,x2⟩:=h;exact ⟨b,cap,arr,e.trans x1,x2⟩
  | pack Q subs=>exact h
  | fz enc l=>obtain ⟨ob,cap,k,x1,x2⟩:=h;exact ⟨ob,cap,k,e.trans x1,x2⟩
  | mp kt et kk enc ents=>obtain ⟨b,es,clock,x1,x2⟩:=h;exact ⟨b,es,clock,e.trans x1,x2⟩
 ·obtain ⟨g1,g2⟩:=at' r z hz
  obtain ⟨g1',g2'⟩:=at' r' z' hz'
  exact C'.rok.apart r r' z z' b g2 g2' hm hm' (occ_q (ql r g1).symm hb) (occ_q (ql r' g1').symm hb')
 ·have hr:=C.rok.fresh r x hx
  rw [ql r (by omega)]
  exact hq' r x hx
theorem wk_le {nb:Nat} {L:qe_} {rows:Rows} (r:Nat) {k:Nat} {els els':List V} (hr:rows[r]?=some (.row k els)) (hl:LeL els els'):Wk nb L rows L (rows.set r (.row k els')):=by
 have lr:=(List.getElem?_eq_some_iff.1 hr).1
 refine ⟨?_⟩
 rintro w0 m0 mb qb n a w hqb ⟨⟨R,m,q,s1,s2,s3,s4,s5⟩,s6,s7⟩
 have hlen:=hl.len
 have old:∀ (j:Nat) z,(rows.set r (.row k els'))[j]?=some z→(j=r∧z=.row k els')∨rows[j]?=some z:=fun j z hz=>by
  by_cases g:r=j
  ·subst g
   rw [List.getElem?_set_self lr] at hz
   cases hz
   exact .inl ⟨rfl,rfl⟩
  ·rw [List.getElem?_set_ne g] at hz
   exact .inr hz
 refine ⟨⟨R,m,q,s1,⟨fun r x h=>by simpa using s2.fresh r x h,fun j z hz=>?_,fun j j' z z' b hz hz' hy hy' hb hb'=>?_⟩,s3,s4,s5⟩,s6,s7⟩
 ·rcases old j z hz with ⟨rfl,rfl⟩|hz
  ·obtain ⟨ob,cap,x1,x2,x3,x4,x5⟩:=s2.row j _ hr
   refine ⟨ob,cap,by rw [←hlen];exact x1,by rw [←hlen];exact x2,x3,x4,fun b hb=>?_⟩
   obtain ⟨arr,T,fz,y1,y2,y3,y4⟩:=x5 b hb
   refine ⟨arr,T,fz,y1,y2,fun i x hx=>?_,y4⟩
   have hi:i < els.length:=by rw [hlen];exact (List.getElem?_eq_some_iff.1 hx).1
   have e1:els[i]?=some els[i]:=List.getElem?_eq_getElem hi
   have hh:=hl.el i _ _ e1 hx
   obtain ⟨z1,z2⟩:=y3 i _ e1
   refine ⟨by rw [←hh.1];exact z1,fun c v hc=>?_⟩
   have hj:c < els[i].cells.length:=by rw [hh.1];exact (List.getElem?_eq_some_iff.1 hc).1
   have e3:els[i].cells[c]?=some els[i].cells[c]:=List.getElem?_eq_getElem hj
   obtain ⟨u,c1,c2,c3⟩:=z2 c _ e3
   exact ⟨u,c1,c2,hh.2 c _ v e3 hc m u c3⟩
  ·exact s2.row j z hz
 ·have back:∀ (j:Nat) z, (rows.set r (.row k els'))[j]?=some z→z.mut=true→Occ q j z b→∃ z0, rows[j]?=some z0∧z0.mut=true∧Occ q j z0 b := fun j z hz hm hb => by
   rcases old j z hz with ⟨rfl,rfl⟩|hz
   ·exact ⟨_,hr,rfl,hb⟩
   ·exact ⟨z,hz,hm,hb⟩
  obtain ⟨y,g1,g2,g3⟩:=back j z hz hy hb
  obtain ⟨y',g1',g2',g3'⟩:=back j' z' hz' hy' hb'
  exact s2.apart j j' y y' b g1 g1' g2 g2' g3 g3'
theorem qpy_ {l:List Bs} (k:Nat):LeL ((l.map blV).set k .nil) ((l.set k []).map blV):=by
 refine ⟨by simp,fun i x y hx hy=>?_⟩
 rw [List.map_set] at hy
 by_cases h:k=i
 ·subst h
  have hk:k < (l.map blV).length:=by have:=(List.getElem?_eq_some_iff.1 hx).1;simpa using this
  rw [List.getElem?_set_self hk] at hx hy
  cases hx
  cases hy
  refine ⟨rfl,fun j v v' hv hv' m u h=>?_⟩
  match j,hv,hv' with
  | 0,hv,hv' =>
   simp [V.cells] at hv
   subst hv
   have:blV []=v':=by simpa [V.cells,blV] using hv'
   subst this
   cases h
   exact .sl0 (Nat.zero_le _) fun _=>rfl
  | n+1,hv,_=>simp [V.cells] at hv
 ·rw [List.getElem?_set_ne h] at hx hy
  rw [hx] at hy
  cases hy
  exact ⟨rfl,fun j v v' hv hv' m u h=>by rw [hv] at hv';cases hv';exact h⟩
end Gv
end PartFo5
section PartFo6
namespace Gv
open Go Go.RowKit Gw Gp
variable [Glob]
structure Only (m m':MachS) (i:Nat):Prop where
 g:m'.g=m.g
 f:m'.f=m.f
 p:m'.p=m.p.set i (pr m' i)
theorem q8u_ {m:MachS} {i:Nat} (hi:i < m.p.length):m.p.set i (pr m i)=m.p:=by
 unfold pr
 rw [List.getD_eq_getElem?_getD,List.getElem?_eq_getElem hi]
 simp
theorem Only.refl {m:MachS} {i:Nat} (hi:i < m.p.length):Only m m i:=⟨rfl,rfl,(q8u_ hi).symm⟩
theorem yj_ {m m':MachS} {i:Nat} {p:ProcS} (hi:i < m.p.length) (hg:m'.g=m.g) (hf:m'.f=m.f) (hp:m'.p=m.p.set i p):Only m m' i:=by
 refine ⟨hg,hf,?_⟩
 rw [hp]
 congr 1
 unfold pr
 rw [hp,xy_,if_pos ⟨rfl,hi⟩]
theorem Only.trans {a b c:MachS} {i:Nat} (hi:i < a.p.length) (h:Only a b i) (k:Only b c i):Only a c i :=
 yj_ hi (k.g.trans h.g) (k.f.trans h.f) (p:=pr c i) (by rw [k.p,h.p,List.set_set])
theorem qmx_ {m:MachS} {i:Nat} (hi:i < m.p.length):Only m (z5_ m i) i:=yj_ hi rfl rfl rfl
theorem q04_ {m:MachS} {i:Nat} (hi:i < m.p.length) (b:Bs):Only m (xk_ m i b) i:=by
 unfold xk_
 dsimp only
 split
 ·exact yj_ hi rfl rfl rfl
 ·split
  ·exact yj_ hi rfl rfl rfl
  ·split
   ·refine yj_ (p:=w3_ (ndG m.g i) m.f (pr (setQ (setP m i (setGot (pr m i) (pr m i).pos.toNat (gotK m i (pr m i).pos.toNat++b))) (insB m.g i) (yy_ (qu m (insB m.g i)))) i)) hi rfl rfl ?_
    unfold z5_ setP setQ
    dsimp only
    rw [List.set_set]
   ·exact yj_ hi rfl rfl rfl
theorem q05_ {m m':MachS} {i:Nat} (hi:i < m.p.length) (h:wx_ m i=some m'):Only m m' i:=by
 unfold wx_ at h
 dsimp only at h
 split at h
 ·cases h;exact qmx_ hi
 ·split at h
  ·cases h
   exact Only.trans hi (b:=setQ m _ _) ⟨rfl,rfl,(q8u_ hi).symm⟩ (q04_ (m:=setQ m _ _) hi _)
  ·split at h
   ·cases h
   ·split at h
    ·cases h
     exact Only.trans hi (b:=setP m i (z8_ (pr m i))) (yj_ hi rfl rfl rfl) (qmx_ (by show i < (m.p.set i _).length;rw [List.length_set];exact hi))
    ·cases h
     exact yj_ hi rfl rfl rfl
theorem qfl_ {m:MachS} {i:Nat} (hi:i < m.p.length):Only m (qv_ m i).1 i:=by
 unfold qv_
 split
 ·exact Only.refl hi
 ·split
  ·split
   ·exact yj_ hi rfl rfl rfl
   ·exact Only.refl hi
  ·split
   ·exact yj_ hi rfl rfl rfl
   ·split
    ·rename_i m' h;exact q05_ hi h
    ·exact Only.refl hi
def zb5_ (Z:MachS→Nat→Prop):qn_:=fun args rows K=>∃ (m:MachS) (i:Nat) (els:List V),args=[.ptr 0 0 0,.int .i64 i]∧FocOK m i els∧Z m i∧rows=focR m i els∧∀ ex,K (.int .i64 (qv_ m i).2) (focR (qv_ m i).1 i els++ex)
def qjj_ (rows:Rows) (r0 r1 r2 r3:Nat) (Q:Loc) (m:MachS):Rows :=
 (((rows.set r0 (.box [.sl qh_ m.g,.sl qq_ m.f,.own r1,.own r2,.sl qd_ m.sunk])).set r1 (.row 4 (m.pipes.map qk_))).set r2 (.row 5 (qo_ Q m.p))).set r3 (.pack Q (q3_ m.p))
def zb6_ (Z:MachS→Nat→Prop):qn_:=fun args rows K=>∃ (m:MachS) (i r0 r1 r2 r3:Nat) (Q:Loc),args=[.ptr r0 0 0,.int .i64 i] ∧
 rows[r0]?=some (.box [.sl qh_ m.g,.sl qq_ m.f,.own r1,.own r2,.sl qd_ m.sunk])∧rows[r1]?=some (.row 4 (m.pipes.map qk_))∧rows[r2]?=some (.row 5 (qo_ Q m.p))∧rows[r3]?=some (.pack Q (q3_ m.p)) ∧
 FocOK m i (qo_ Q m.p)∧Z m i∧K (.int .i64 (qv_ m i).2) (qjj_ rows r0 r1 r2 r3 Q (qv_ m i).1)
theorem qw7_ {P:Program} {f:FuncId} {Z:MachS→Nat→Prop} (HT:q1_ P f (zb5_ Z)):q1_ P f (zb6_ Z):=by
 intro w0 m0 args rows k R m' q w us C hv hT
 obtain ⟨m,i,r0,r1,r2,r3,Q,rfl,h0,h1,h2,h3,hF,hZ,hK⟩:=hT
 have hi:i < m.p.length:=by rw [hF.np];exact hF.lt
 have hpi:m.p[i]?=some (pr m i):=by
  unfold pr
  rw [List.getD_eq_getElem?_getD,List.getElem?_eq_getElem hi];rfl
 obtain ⟨g1,g2⟩:=qcn_ hpi
 have ho:=qfl_ (m:=m) hi
 generalize hs:qv_ m i=s at hK ho
 obtain ⟨m2,e⟩:=s
 dsimp only at hK ho
 refine q46_ HT (r0:=r0) (r1:=r1) (r2:=r2) (r3:=r3) (i:=i) (a:=.int .i64 (pr m i).pos) (rd:=.bool (pr m i).read) (ov:=.bool (pr m i).over) C hv rfl h0 rfl h1 h2 h3 vi_ (vz_ hpi) g1 g2 ⟨m,i,qo_ Q m.p,rfl,hF,hZ,rfl,fun ex=>?_⟩
 rw [hs]
 refine ⟨.sl qd_ m2.sunk,m2.pipes.map qk_,(pr m2 i).got.map blV,(pr m2 i).out.map blV,.int .i64 (pr m2 i).pos,.bool (pr m2 i).read,.bool (pr m2 i).over,ex,rfl,.inl rfl,?_,?_⟩
 ·unfold focR
  rw [ho.g,ho.f]
  rfl
 ·have e1:(qo_ Q m.p).set i (vy_ Q i (pr m2 i))=qo_ Q m2.p:=by rw [qql_,←ho.p]
  have e2:((q3_ m.p).set (2*i) ((pr m2 i).got.map blV)).set (2*i+1) ((pr m2 i).out.map blV)=q3_ m2.p:=by rw [qdm_ hi,←ho.p]
  unfold qjj_ at hK
  rw [ho.g,ho.f,←e1,←e2] at hK
  exact hK
end Gv
end PartFo6
section PartFo7
namespace Gv
open Go Go.RowKit Gw Gp
variable [Glob]
theorem zdl_ {R m:Mem} {q:Loc} {rows:Rows} (r:Nat) {k:Nat} {els els':List V} (hr:rows[r]?=some (.row k els)) (hl:LeL els els') (s2:RowsOK R m q rows):RowsOK R m q (rows.set r (.row k els')):=by
 have lr:=(List.getElem?_eq_some_iff.1 hr).1
 have hlen:=hl.len
 have old:∀ (j:Nat) z,(rows.set r (.row k els'))[j]?=some z→(j=r∧z=.row k els')∨rows[j]?=some z:=fun j z hz=>by
  by_cases g:r=j
  ·subst g
   rw [List.getElem?_set_self lr] at hz
   cases hz
   exact .inl ⟨rfl,rfl⟩
  ·rw [List.getElem?_set_ne g] at hz
   exact .inr hz
 refine ⟨fun r x h=>by simpa using s2.fresh r x h,fun j z hz=>?_,fun j j' z z' b hz hz' hy hy' hb hb'=>?_⟩
 ·rcases old j z hz with ⟨rfl,rfl⟩|hz
  ·obtain ⟨ob,cap,x1,x2,x3,x4,x5⟩:=s2.row j _ hr
   refine ⟨ob,cap,by rw [←hlen];exact x1,by rw [←hlen];exact x2,x3,x4,fun b hb=>?_⟩
   obtain ⟨arr,T,fz,y1,y2,y3,y4⟩:=x5 b hb
   refine ⟨arr,T,fz,y1,y2,fun i x hx=>?_,y4⟩
   have hi:i < els.length:=by rw [hlen];exact (List.getElem?_eq_some_iff.1 hx).1
   have e1:els[i]?=some els[i]:=List.getElem?_eq_getElem hi
   have hh:=hl.el i _ _ e1 hx
   obtain ⟨z1,z2⟩:=y3 i _ e1
   refine ⟨by rw [←hh.1];exact z1,fun c v hc=>?_⟩
   have hj:c < els[i].cells.length:=by rw [hh.1];exact (List.getElem?_eq_some_iff.1 hc).1
   have e3:els[i].cells[c]?=some els[i].cells[c]:=List.getElem?_eq_getElem hj
   obtain ⟨u,c1,c2,c3⟩:=z2 c _ e3
   exact ⟨u,c1,c2,hh.2 c _ v e3 hc m u c3⟩
  ·exact s2.row j z hz
 ·have back:∀ (j:Nat) z, (rows.set r (.row k els'))[j]?=some z→z.mut=true→Occ q j z b→∃ z0, rows[j]?=some z0∧z0.mut=true∧Occ q j z0 b := fun j z hz hm hb => by
   rcases old j z hz with ⟨rfl,rfl⟩|hz
   ·exact ⟨_,hr,rfl,hb⟩
   ·exact ⟨z,hz,hm,hb⟩
  obtain ⟨y,g1,g2,g3⟩:=back j z hz hy hb
  obtain ⟨y',g1',g2',g3'⟩:=back j' z' hz' hy' hb'
  exact s2.apart j j' y y' b g1 g1' g2 g2' g3 g3'
theorem q1s_ {P:Program} {f:FuncId} {T:qn_} (h:q1_ P f T):q1_ P f (fun args rows k=>T args rows fun v rows'=>k v rows'∨∃ r kk els els',rows'[r]?=some (.row kk els)∧LeL els els'∧k v (rows'.set r (.row kk els'))):=by
 intro w0 m0 args rows k R m q w us C hv hT
 obtain ⟨h1,h2⟩:=h w0 m0 args rows _ R m q w us C hv hT
 refine ⟨h1,h2.mono fun e w' ⟨u,he,v,rows',R',m',q',hk,C',hm',hq',hvu⟩=>?_⟩
 rcases hk with hk|⟨r,kk,els,els',g1,g2,g3⟩
 ·exact ⟨u,he,v,rows',R',m',q',hk,C',hm',hq',hvu⟩
 ·exact ⟨u,he,v,_,R',m',q',g3,⟨C'.sit,zdl_ r g1 g2 C'.rok⟩,hm',hq',hvu⟩
theorem xj_ {m:MachS} {i:Nat} {els:List V} {p:ProcS} {sunk:Bs} {pipes:List PipeS} (hi:i < m.p.length):focR ⟨m.g,m.f,pipes,m.p.set i p,sunk⟩ i els=[.box [.sl qh_ m.g,.sl qq_ m.f,.own 1,.own 2,.sl qd_ sunk],.row 4 (pipes.map qk_),.rowq 5 (els.set i (q6_ p)),.row 1 (p.got.map blV),.row 1 (p.out.map blV)]:=by
 unfold focR
 have e:pr ⟨m.g,m.f,pipes,m.p.set i p,sunk⟩ i=p:=by
  show (m.p.set i p).getD i q3v_=p
  rw [xy_,if_pos ⟨rfl,hi⟩]
 rw [e]
theorem qkv_ {m:MachS} {i:Nat} {b:Bs} {k:Nat} (hk:(pr m i).pos.toNat=k) (h:(ndG m.g i).kind=5):xk_ m i b=⟨m.g,m.f,m.pipes,m.p.set i (setGot (pr m i) k []),m.sunk++(gotK m i k++b)⟩:=by
 subst hk
 unfold xk_
 dsimp only
 rw [if_pos h]
 rfl
theorem qen_ {m:MachS} {i:Nat} {b:Bs} {k:Nat} (hk:(pr m i).pos.toNat=k) (h:¬ (ndG m.g i).kind=5) (h2:wv_ (ndG m.g i)=true∨ya_ (ndG m.g i)=true) :
  xk_ m i b=⟨m.g,m.f,m.pipes,m.p.set i (setOut (setGot (pr m i) k (rest (gotK m i k++b))) 0 (outK m i 0++put (if (ndG m.g i).kind=3 then zq_ (ndG m.g i).c (qc_ (comp (gotK m i k++b))) else qc_ (comp (gotK m i k++b))))),m.sunk⟩:=by
 subst hk
 unfold xk_
 dsimp only
 rw [if_neg h,if_pos h2]
 rfl
theorem qkt_ {m:MachS} {i:Nat} {b:Bs} {k:Nat} (hk:(pr m i).pos.toNat=k) (h:¬ (ndG m.g i).kind=5) (h2:¬ (wv_ (ndG m.g i)=true∨ya_ (ndG m.g i)=true)) (h3:vg_ (ndG m.g i)=true∧(ndG m.g i).c.n≤(wu_ (gotK m i k++b):Int)) :
  xk_ m i b=z5_ ⟨m.g,m.f,m.pipes.set (insB m.g i) (yy_ (qu m (insB m.g i))),m.p.set i (setGot (pr m i) k (gotK m i k++b)),m.sunk⟩ i:=by
 subst hk
 unfold xk_
 dsimp only
 rw [if_neg h,if_neg h2,if_pos h3]
 rfl
theorem qku_ {m:MachS} {i:Nat} {b:Bs} {k:Nat} (hk:(pr m i).pos.toNat=k) (h:¬ (ndG m.g i).kind=5) (h2:¬ (wv_ (ndG m.g i)=true∨ya_ (ndG m.g i)=true)) (h3:¬ (vg_ (ndG m.g i)=true∧(ndG m.g i).c.n≤(wu_ (gotK m i k++b):Int))) :
  xk_ m i b=⟨m.g,m.f,m.pipes,m.p.set i (setGot (pr m i) k (gotK m i k++b)),m.sunk⟩:=by
 subst hk
 unfold xk_
 dsimp only
 rw [if_neg h,if_neg h2,if_neg h3]
 rfl
theorem qvd_ {m:MachS} {i k:Nat} {els:List V} {x:Bs} {pipes:List PipeS} (h:FocOK m i els) (hx:x.length≤400000000) (hl:pipes.length=m.pipes.length) (hr:∀ p∈pipes,p.b.length≤400000000):FocOK ⟨m.g,m.f,pipes,m.p.set i (setGot (pr m i) k x),m.sunk⟩ i els:=by
 have hi:i < m.p.length:=by rw [h.np];exact h.lt
 have e:pr ⟨m.g,m.f,pipes,m.p.set i (setGot (pr m i) k x),m.sunk⟩ i=setGot (pr m i) k x:=by
  show (m.p.set i _).getD i q3v_=_
  rw [xy_,if_pos ⟨rfl,hi⟩]
 refine ⟨h.g,h.f,?_,?_,h.lt,h.nl,?_,?_,hr,h.pe,fun b hb=>?_⟩
 ·show (m.p.set i _).length=_
  rw [List.length_set];exact h.np
 ·exact hl.trans h.nq
 ·rw [e]
  show ((pr m i).got.set k x).length=_
  rw [List.length_set];exact h.got
 ·rw [e];exact h.out
 ·rw [e] at hb
  rcases List.mem_append.1 hb with hb|hb
  ·rcases List.mem_or_eq_of_mem_set hb with hb|rfl
   ·exact h.big b (List.mem_append_left _ hb)
   ·exact hx
  ·exact h.big b (List.mem_append_right _ hb)
theorem qae_:∀ (l:List Bs) (k:Nat) (x:Bs),k < l.length→(l.set k x).flatten.length+(l.getD k []).length=l.flatten.length+x.length
 | a::r,0,x,_=>by simp;omega
 | a::r,k+1,x,h=>by
  have:=qae_ r k x (by simpa using h)
  simp only [List.set_cons_succ,List.flatten_cons,List.length_append,List.getD_cons_succ]
  omega
end Gv
end PartFo7
section PartFo8
namespace Gv
open Go Go.RowKit Gw Gp
variable [Glob]
theorem qs5_ {P:Program} {f:FuncId} {T:qn_} (h:q1_ P f T):q1_ P f (fun args rows k=>T args rows fun v rows'=>k v rows'∨(v=.nil∧∃ kk,k (.own (rows'.length+1)) (rows'++[.dead,.row kk []]))):=by
 intro w0 m0 args rows k R m q w us C hv hT
 obtain ⟨h1,h2⟩:=h w0 m0 args rows _ R m q w us C hv hT
 refine ⟨h1,h2.mono fun e w' ⟨u,he,v,rows',R',m',q',hk,C',hm',hq',hvu⟩=>?_⟩
 rcases hk with hk|⟨rfl,kk,hk⟩
 ·exact ⟨u,he,v,rows',R',m',q',hk,C',hm',hq',hvu⟩
 let q2:Loc:=fun r=>if r=rows'.length+1 then some (none,0,0,kk) else q' r
 have qn:q2 (rows'.length+1)=some (none,0,0,kk):=if_pos rfl
 have qo:∀ r,r≠rows'.length+1→q2 r=q' r:=fun r h=>if_neg h
 have hle:q'.Le q2:=fun r x e=>by
  rw [qo r (fun h=>by have:=C'.rok.fresh r x e;omega)];exact e
 have old:∀ (j:Nat) z,(rows'++[Row.dead,.row kk []])[j]?=some z→rows'[j]?=some z∨z=.dead∨(j=rows'.length+1∧z=.row kk []):=fun j z hz=>by
  rcases Nat.lt_or_ge j rows'.length with h|h
  ·rw [List.getElem?_append_left h] at hz;exact .inl hz
  ·rw [List.getElem?_append_right h] at hz
   match hj:j-rows'.length,hz with
   | 0,hz=>simp at hz;exact .inr (.inl hz.symm)
   | 1,hz=>simp at hz;exact .inr (.inr ⟨by omega,hz.symm⟩)
   | n+2,hz=>simp at hz
 have occ:∀ {j:Nat} {z:Row} {b:Nat},(rows'++[Row.dead,.row kk []])[j]?=some z→z.mut=true→Occ q2 j z b→rows'[j]?=some z∧Occ q' j z b:=fun {j z b} hz hm hb=>by
  rcases old j z hz with hz|rfl|⟨rfl,rfl⟩
  ·have hj:=(List.getElem?_eq_some_iff.1 hz).1
   exact ⟨hz,occ_q (qo j (by omega)).symm hb⟩
  ·cases hm
  ·obtain ⟨n,c,k,hb⟩:=hb
   rw [qn] at hb
   cases hb
 refine ⟨u,he,.own (rows'.length+1),_,R',m',q2,hk,⟨C'.sit,⟨fun r x hx=>?_,fun j z hz=>?_,fun j j' z z' b hz hz' hy hy' hb hb'=>?_⟩⟩,hm',hq'.trans hle,?_⟩
 ·simp only [List.length_append,List.length_cons,List.length_nil]
  by_cases g:r=rows'.length+1
  ·omega
  ·rw [qo r g] at hx
   have:=C'.rok.fresh r x hx
   omega
 ·rcases old j z hz with hz|rfl|⟨rfl,rfl⟩
  ·exact (C'.rok.row j z hz).up (Mem.Le.refl _) hle fun _ _ _=>rfl
  ·trivial
  ·exact ⟨none,0,qn,Nat.le_refl _,Nat.zero_le _,fun _=>rfl,fun b hb=>by cases hb⟩
 ·obtain ⟨g1,g2⟩:=occ hz hy hb
  obtain ⟨g1',g2'⟩:=occ hz' hy' hb'
  exact C'.rok.apart j j' z z' b g1 g1' hy hy' g2 g2'
 ·cases hvu
  exact .own (ob:=none) qn
theorem qm2_ {P:Program} {f:FuncId} {T:qn_} (h:q1_ P f T):q1_ P f (fun args rows k=>T args rows fun v rows'=>∃ keep ex cs,rows'=keep++ex∧rows.length≤keep.length∧(∀ y∈keep,y.shut=true)∧v=.agg cs∧(∀ c∈cs,c.pure=true∨∃ r,r < keep.length∧c=.own r)∧k v keep):=by
 intro w0 m0 args rows k R m q w us C hv hT
 obtain ⟨h1,h2⟩:=h w0 m0 args rows _ R m q w us C hv hT
 refine ⟨h1,h2.mono fun e w' ⟨u,he,v,rows',R',m',q',⟨keep,ex,cs,hr,hl,hs,hvc,hp,hk⟩,C',hm',hq',hvu⟩=>?_⟩
 subst hr
 let q2:Loc:=fun r=>if r < keep.length then q' r else none
 have ql:∀ r,r < keep.length→q2 r=q' r:=fun r h=>if_pos h
 have at':∀ (r:Nat) z,keep[r]?=some z→r < keep.length∧(keep++ex)[r]?=some z:=fun r z hz=>by
  have hr:=(List.getElem?_eq_some_iff.1 hz).1
  exact ⟨hr,by rw [List.getElem?_append_left hr];exact hz⟩
 refine ⟨u,he,v,keep,R',m',q2,hk,⟨C'.sit,⟨fun r x hx=>?_,fun r z hz=>?_,fun r r' z z' b hz hz' hm hm' hb hb'=>?_⟩⟩,hm',fun r x hx=>?_,?_⟩
 ·simp only [q2] at hx
  split at hx
  ·assumption
  ·cases hx
 ·obtain ⟨g1,g2⟩:=at' r z hz
  have hsz:=hs z (List.mem_of_getElem? hz)
  have h:=C'.rok.row r z g2
  have e:=ql r g1
  cases z with
  | dead=>trivial
  | bx=>cases hsz
  | rowq=>cases hsz
  | row k els=>obtain ⟨ob,cap,x1,x2⟩:=h;exact ⟨ob,cap,e.trans x1,x2⟩
  | byt E l=>obtain ⟨b,cap,arr,x1,x2⟩:=h;exact ⟨b,cap,arr,e.trans x1,x2⟩
  | pack Q subs=>exact h
  | fz enc l=>obtain ⟨ob,cap,k,x1,x2⟩:=h;exact ⟨ob,cap,k,e.trans x1,x2⟩
  | mp kt et kk enc ents=>obtain ⟨b,es,clock,x1,x2⟩:=h;exact ⟨b,es,clock,e.trans x1,x2⟩
 ·obtain ⟨g1,g2⟩:=at' r z hz
  obtain ⟨g1',g2'⟩:=at' r' z' hz'
  exact C'.rok.apart r r' z z' b g2 g2' hm hm' (occ_q (ql r g1).symm hb) (occ_q (ql r' g1').symm hb')
 ·have hr:=C.rok.fresh r x hx
  rw [ql r (by omega)]
  exact hq' r x hx
 ·subst hvc
  cases hvu with
  | @agg _ _ us hl' hel =>
   refine .agg hl' fun i c u e e'=>?_
   have h:=hel i c u e e'
   rcases hp c (List.mem_of_getElem? e) with hp|⟨r,hr,rfl⟩
   ·exact xf_ hp h
   ·cases h with
    | own h=>exact .own ((ql r hr).trans h)
theorem q3g_ {m:Mem} {q:Loc} {cs:List V} {us:List Value} (h:VRL m q [.agg cs] us) (hp:zk_ cs=true):VRL m noLoc [.agg cs] us:=by
 refine ⟨h.len,fun i v u e e'=>?_⟩
 have hh:=h.el i v u e e'
 match i,e with
 | 0,e =>
  cases e
  cases hh with
  | agg hl hel=>exact .agg hl fun j c u g g'=>(hel j c u g g').free (zs_ _ hp c (List.mem_of_getElem? g))
theorem qts_ {nb:Nat} {L:qe_} {rows:Rows} (r:Nat) (Q:Loc) (h:rows[r]?=some .dead):Wk nb L rows L (rows.set r (.pack Q [])):=by
 have hl:=(List.getElem?_eq_some_iff.1 h).1
 have old:∀ (j:Nat) z,(rows.set r (.pack Q []))[j]?=some z→(j=r∧z=.pack Q [])∨rows[j]?=some z:=fun j z hz=>by
  by_cases g:r=j
  ·subst g
   rw [List.getElem?_set_self hl] at hz
   cases hz
   exact .inl ⟨rfl,rfl⟩
  ·rw [List.getElem?_set_ne g] at hz
   exact .inr hz
 refine ⟨?_⟩
 rintro w0 m0 mb qb n a w hqb ⟨⟨R,m,q,s1,s2,s3,s4,s5⟩,s6,s7⟩
 refine ⟨⟨R,m,q,s1,⟨fun r x h=>by simpa using s2.fresh r x h,fun j z hz=>?_,fun j j' z z' b hz hz' hy hy' hb hb'=>?_⟩,s3,s4,s5⟩,s6,s7⟩
 ·rcases old j z hz with ⟨rfl,rfl⟩|hz
  ·exact ⟨fun j els hj=>by simp at hj,fun j j' b n c k n' c' k' hj=>by simp at hj⟩
  ·exact s2.row j z hz
 ·have no:∀ j b,¬ Occ q j (.pack Q []) b:=fun j b ⟨x,n,c,k,hx,_⟩=>by simp at hx
  rcases old j z hz with ⟨rfl,rfl⟩|hz
  ·exact absurd hb (no _ _)
  ·rcases old j' z' hz' with ⟨rfl,rfl⟩|hz'
   ·exact absurd hb' (no _ _)
   ·exact s2.apart j j' z z' b hz hz' hy hy' hb hb'
theorem q1z_ {Q Q':Loc} {j:Nat} (h:Q' j=Q j):rawQ Q' j=rawQ Q j:=by unfold rawQ;rw [h]
theorem qhx_ {Q Q':Loc} {ps:List ProcS} (h:∀ j,j < 2*ps.length→Q' j=Q j):qo_ Q' ps=qo_ Q ps:=by
 unfold qo_
 refine List.ext_getElem? fun i=>?_
 rw [List.getElem?_mapIdx,List.getElem?_mapIdx]
 cases hi:ps[i]? with
 | none=>rfl
 | some p =>
  have hl:=(List.getElem?_eq_some_iff.1 hi).1
  simp only [Option.map_some,vy_]
  rw [q1z_ (h (2*i) (by omega)),q1z_ (h (2*i+1) (by omega))]
theorem qdw_ {Q:Loc} {ps:List ProcS} {p:ProcS}:qo_ Q (ps++[p])=qo_ Q ps++[vy_ Q ps.length p]:=by
 unfold qo_
 rw [List.mapIdx_append]
 simp
theorem qib_:∀ (a b:List ProcS),q3_ (a++b)=q3_ a++q3_ b
 | [],b=>rfl
 | p::r,b=>by simp only [List.cons_append,q3_,qib_ r b]
def xw_ (Q:Loc) (P:List ProcS) (k:Nat):List V:=qo_ Q (P.take k)++(P.drop k).map zf_
theorem qha_ {Q:Loc} {P:List ProcS} {k:Nat} (hk:k≤P.length):(xw_ Q P k).length=P.length:=by
 unfold xw_
 rw [List.length_append,q8_,List.length_map,List.length_take,List.length_drop]
 omega
theorem qyk_ {Q:Loc} {P:List ProcS} {k:Nat} (hk:k < P.length):(xw_ Q P k)[k]?=some (zf_ P[k]):=by
 unfold xw_
 rw [List.getElem?_append_right (by rw [q8_,List.length_take];omega),q8_,List.length_take,Nat.min_eq_left (by omega),Nat.sub_self,List.drop_eq_getElem_cons hk]
 rfl
theorem qo5_ {Q Q':Loc} {P:List ProcS} {k:Nat} (hk:k < P.length) (h:∀ j,j < 2*k→Q' j=Q j):(xw_ Q P k).set k (vy_ Q' k P[k])=xw_ Q' P (k+1):=by
 unfold xw_
 have hl:(P.take k).length=k:=by rw [List.length_take];omega
 rw [List.drop_eq_getElem_cons hk,List.map_cons,q2r_ _ _ _ _ (by rw [q8_,hl]),List.take_succ_eq_append_getElem hk,qdw_,hl,qhx_ (Q:=Q) (Q':=Q') (by rw [hl];exact h),List.append_assoc]
 rfl
theorem qo4_ {Q:Loc} {P:List ProcS} {k:Nat}:∀ x∈xw_ Q P k,zk_ x.cells=true:=fun x hx=>by
 unfold xw_ at hx
 rcases List.mem_append.1 hx with hx|hx
 ·exact vi_ x hx
 ·obtain ⟨p,-,rfl⟩:=List.mem_map.1 hx
  rfl
theorem qnr_ {P:List ProcS} {k:Nat} (hk:k < P.length):q3_ (P.take k)++[P[k].got.map blV,P[k].out.map blV]=q3_ (P.take (k+1)):=by
 rw [List.take_succ_eq_append_getElem hk,qib_]
 rfl
end Gv
end PartFo8
section PartFo9
namespace Gv
open Go Go.RowKit Gw Gp
variable [Glob]
section
variable {w0:Start} {w w':World} {m0 R m:Mem} {q:Loc} {rows:Rows} {P:Program}
theorem qzc_ {f:FuncId} {Tf:qn_} (HT:q1_ P f Tf) {r0 r1 r2 r3 i:Nat} {args:List V} {ns fs sk a rd ov:V} {pipes els:List V} {Q:Loc} {subs:List (List V)} {got out:List V} {us:List Value} {k:V→Rows→Prop}
  (C:Cf w0 m0 rows R m q w) (hv:VRL m q (.ptr r0 0 0::args) us) (ha:zk_ args=true)
  (h0:rows[r0]?=some (.box [ns,fs,.own r1,.own r2,sk])) (hp0:zk_ [ns,fs,sk,a,rd,ov]=true)
  (h1:rows[r1]?=some (.row 4 pipes)) (h2:rows[r2]?=some (.row 5 els)) (h3:rows[r3]?=some (.pack Q subs)) (hpe:∀ x∈els,zk_ x.cells=true)
  (hi:els[i]?=some (.agg [.raw (rawQ Q (2*i)),a,.raw (rawQ Q (2*i+1)),rd,ov]))
  (hg:subs[2*i]?=some got) (ho:subs[2*i+1]?=some out)
  (hT:Tf (.ptr 0 0 0::args) [.box [ns,fs,.own 1,.own 2,sk],.row 4 pipes,.rowq 5 (els.set i (.agg [.own 3,a,.own 4,rd,ov])),.row 1 got,.row 1 out]
   (fun v rows1=>∃ sk' pipes' got' out' a' rd' ov' ra rb ex,zk_ [sk',a',rd',ov']=true∧(v.pure=true∨v=.tup [])∧ra≠rb ∧
    rows1=[.box [ns,fs,.own 1,.own 2,sk'],.row 4 pipes',.rowq 5 (els.set i (.agg [.own ra,a',.own rb,rd',ov']))]++ex∧rows1[ra]?=some (.row 1 got')∧rows1[rb]?=some (.row 1 out') ∧
    ∀ Q':Loc,(∀ j,j≠2*i→j≠2*i+1→Q' j=Q j)→k v ((((rows.set r0 (.box [ns,fs,.own r1,.own r2,sk'])).set r1 (.row 4 pipes')).set r2 (.row 5 (els.set i (.agg [.raw (rawQ Q' (2*i)),a',.raw (rawQ Q' (2*i+1)),rd',ov'])))).set r3 (.pack Q' ((subs.set (2*i) got').set (2*i+1) out'))))) :
  qb_ P f=true∧Calls P f us.toArray w fun e w'=>∃ u,e=.returned u∧After w0 m0 m q k u w':=by
 have n01:r0≠r1:=fun e=>by subst e;rw [h0] at h1;cases h1
 have n02:r0≠r2:=fun e=>by subst e;rw [h0] at h2;cases h2
 have n03:r0≠r3:=fun e=>by subst e;rw [h0] at h3;cases h3
 have n12:r1≠r2:=fun e=>by subst e;rw [h1] at h2;cases h2
 have n13:r1≠r3:=fun e=>by subst e;rw [h1] at h3;cases h3
 have n23:r2≠r3:=fun e=>by subst e;rw [h2] at h3;cases h3
 have K3:=C.rok.row r3 _ h3
 have Kg:RowR R m Q (2*i) 1 got:=K3.1 _ _ hg
 have Ko:RowR R m Q (2*i+1) 1 out:=K3.1 _ _ ho
 have K1:RowR R m q r1 4 pipes:=C.rok.row r1 _ h1
 have K2:RowR R m q r2 5 els:=C.rok.row r2 _ h2
 obtain ⟨b0,arr0,T0,e0,e0',-,e0s,e0c⟩:=C.rok.row r0 _ h0
 let inX (b:Nat):Prop:=(∃ n c k,q r0=some (some b,n,c,k))∨(∃ n c k,q r1=some (some b,n,c,k))∨(∃ n c k,q r2=some (some b,n,c,k))∨(∃ n c k,Q (2*i)=some (some b,n,c,k))∨(∃ n c k,Q (2*i+1)=some (some b,n,c,k))
 let X0:List Nat:=[q r0,q r1,q r2,Q (2*i),Q (2*i+1)].filterMap fun x=>x.bind (·.1)
 have hX:∀ b,b∈X0↔inX b:=fun b=>by
  have one:∀ x:Option (Option Nat × Nat × Nat × Nat),x.bind (·.1)=some b↔∃ n c k,x=some (some b,n,c,k):=fun x=>by
   constructor
   ·intro h
    obtain ⟨⟨ob,n,c,k⟩,e1,e2⟩:=Option.bind_eq_some_iff.1 h
    dsimp only at e2
    subst e2
    exact ⟨n,c,k,e1⟩
   ·rintro ⟨n,c,k,rfl⟩
    rfl
  simp only [X0,List.mem_filterMap,inX,List.mem_cons,List.not_mem_nil,or_false]
  constructor
  ·rintro ⟨x,(rfl|rfl|rfl|rfl|rfl),h⟩
   ·exact .inl ((one _).1 h)
   ·exact .inr (.inl ((one _).1 h))
   ·exact .inr (.inr (.inl ((one _).1 h)))
   ·exact .inr (.inr (.inr (.inl ((one _).1 h))))
   ·exact .inr (.inr (.inr (.inr ((one _).1 h))))
  ·rintro (h|h|h|h|h)
   ·exact ⟨_,.inl rfl,(one _).2 h⟩
   ·exact ⟨_,.inr (.inl rfl),(one _).2 h⟩
   ·exact ⟨_,.inr (.inr (.inl rfl)),(one _).2 h⟩
   ·exact ⟨_,.inr (.inr (.inr (.inl rfl))),(one _).2 h⟩
   ·exact ⟨_,.inr (.inr (.inr (.inr rfl))),(one _).2 h⟩
 let R0:Mem:=fun b=>if b∈X0 then R b else none
 let q0:Loc:=loc5 (q r0) (q r1) (q r2) (Q (2*i)) (Q (2*i+1))
 have hgl:=(List.getElem?_eq_some_iff.1 hg).1
 have hol:=(List.getElem?_eq_some_iff.1 ho).1
 have hil:=(List.getElem?_eq_some_iff.1 hi).1
 have hocc:∀ b,inX b→Occ q r0 (.box [ns,fs,.own r1,.own r2,sk]) b∨Occ q r1 (.row 4 pipes) b∨Occ q r2 (.row 5 els) b∨Occ q r3 (.pack Q subs) b:=fun b h=>by
  rcases h with h|h|h|⟨n,c,k,h⟩|⟨n,c,k,h⟩
  ·exact .inl h
  ·exact .inr (.inl h)
  ·exact .inr (.inr (.inl h))
  ·exact .inr (.inr (.inr ⟨_,n,c,k,hgl,h⟩))
  ·exact .inr (.inr (.inr ⟨_,n,c,k,hol,h⟩))
 have hRX:∀ b,b∈X0→∃ o,R b=some o:=fun b hb=>by
  rcases hocc b ((hX b).1 hb) with h|h|h|h
  ·exact z1_ (C.rok.row r0 _ h0) rfl h
  ·exact z1_ (C.rok.row r1 _ h1) rfl h
  ·exact z1_ (C.rok.row r2 _ h2) rfl h
  ·exact z1_ (C.rok.row r3 _ h3) rfl h
 have hR0:∀ b,inX b→R0 b=R b:=fun b h=>if_pos ((hX b).2 h)
 have hfree:∀ r y b,rows[r]?=some y→y.mut=true→Occ q r y b→r≠r0→r≠r1→r≠r2→r≠r3→b ∉ X0:=fun r y b hr hy hob g0 g1 g2 g3 hb=>by
  rcases hocc b ((hX b).1 hb) with h|h|h|h
  ·exact g0 (C.rok.apart r r0 _ _ b hr h0 hy rfl hob h)
  ·exact g1 (C.rok.apart r r1 _ _ b hr h1 hy rfl hob h)
  ·exact g2 (C.rok.apart r r2 _ _ b hr h2 hy rfl hob h)
  ·exact g3 (C.rok.apart r r3 _ _ b hr h3 hy rfl hob h)
 have hfreeQ:∀ j b n c k,j < subs.length→Q j=some (some b,n,c,k)→j≠2*i→j≠2*i+1→b ∉ X0:=fun j b n c k hj hQ g0 g1 hb=>by
  have hob:Occ q r3 (.pack Q subs) b:=⟨j,n,c,k,hj,hQ⟩
  rcases (hX b).1 hb with h|h|h|⟨n',c',k',h⟩|⟨n',c',k',h⟩
  ·exact n03 (C.rok.apart r0 r3 _ _ b h0 h3 rfl rfl h hob)
  ·exact n13 (C.rok.apart r1 r3 _ _ b h1 h3 rfl rfl h hob)
  ·exact n23 (C.rok.apart r2 r3 _ _ b h2 h3 rfl rfl h hob)
  ·exact g0 (K3.2 j _ b _ _ _ _ _ _ hj hgl hQ h)
  ·exact g1 (K3.2 j _ b _ _ _ _ _ _ hj hol hQ h)
 have pl:∀ {l:List V},zk_ l=true→∀ v∈l,v.pure=true:=fun h=>zs_ _ h
 have C0:Cf ⟨w,X0⟩ m [.box [ns,fs,.own 1,.own 2,sk],.row 4 pipes,.rowq 5 (els.set i (.agg [.own 3,a,.own 4,rd,ov])),.row 1 got,.row 1 out] R0 m q0 w:=by
  refine ⟨⟨Bel.refl _ _,fun b o hb=>?_,C.sit.mem,fun b o e _ _=>e,C.sit.glob⟩,⟨fun j x hj=>?_,fun j y hy=>?_,fun j j' y y' b hy hy' hm hm' hb hb'=>?_⟩⟩
  ·simp only [R0] at hb
   split at hb
   ·rename_i hx;exact ⟨.inr hx,(C.sit.own b o hb).2⟩
   ·cases hb
  ·match j,hj with
   | 0,_=>simp
   | 1,_=>simp
   | 2,_=>simp
   | 3,_=>simp
   | 4,_=>simp
   | n+5,hj=>cases hj
  ·rcases get5 hy with ⟨rfl,rfl⟩|⟨rfl,rfl⟩|⟨rfl,rfl⟩|⟨rfl,rfl⟩|⟨rfl,rfl⟩
   ·refine ⟨b0,arr0,T0,e0,(hR0 b0 (.inl ⟨_,_,_,e0⟩)).trans e0',(fun T' h=>by cases h),e0s,fun j v hj=>?_⟩
    have fr:∀ v∈[ns,fs,sk],v.pure=true:=fun v hv=>pl hp0 v (by simp at hv ⊢;rcases hv with h|h|h<;>simp [h])
    rcases get5 hj with ⟨rfl,rfl⟩|⟨rfl,rfl⟩|⟨rfl,rfl⟩|⟨rfl,rfl⟩|⟨rfl,rfl⟩
    ·obtain ⟨u,g1,g2,g3⟩:=e0c 0 _ rfl;exact ⟨u,g1,g2,xf_ (fr _ (by simp)) g3⟩
    ·obtain ⟨u,g1,g2,g3⟩:=e0c 1 _ rfl;exact ⟨u,g1,g2,xf_ (fr _ (by simp)) g3⟩
    ·obtain ⟨u,g1,g2,g3⟩:=e0c 2 _ rfl
     refine ⟨u,g1,g2,?_⟩
     cases g3 with|own h=>exact .own (show q0 1=_ from h)
    ·obtain ⟨u,g1,g2,g3⟩:=e0c 3 _ rfl
     refine ⟨u,g1,g2,?_⟩
     cases g3 with|own h=>exact .own (show q0 2=_ from h)
    ·obtain ⟨u,g1,g2,g3⟩:=e0c 4 _ rfl;exact ⟨u,g1,g2,xf_ (fr _ (by simp)) g3⟩
   ·exact K1.up (Q':=q0) (j':=1) rfl (Mem.Le.refl m) fun b n c k h=>hR0 b (.inr (.inl ⟨_,_,_,h⟩))
   ·obtain ⟨ob,cap,g1,g2,g3,g4,g5⟩:=K2
    refine ⟨ob,cap,by rw [List.length_set];exact g1,by rw [List.length_set];exact g2,g3,g4,fun b hb=>?_⟩
    obtain ⟨arr,T,fz,a1,a2,a3,a4⟩:=g5 b hb
    refine ⟨arr,T,fz,(hR0 b (.inr (.inr (.inl ⟨_,_,_,by rw [g1,hb]⟩)))).trans a1,a2,fun j x hx=>?_,a4⟩
    by_cases ej:i=j
    ·subst ej
     rw [List.getElem?_set_self hil] at hx
     cases hx
     obtain ⟨-,a3'⟩:=a3 i _ hi
     refine ⟨rfl,fun c v hc=>?_⟩
     obtain ⟨og,cg,k1,-⟩:=Kg
     obtain ⟨oo,co,k2,-⟩:=Ko
     rcases get5 hc with ⟨rfl,rfl⟩|⟨rfl,rfl⟩|⟨rfl,rfl⟩|⟨rfl,rfl⟩|⟨rfl,rfl⟩
     ·obtain ⟨u,c1,c2,c3⟩:=a3' 0 _ rfl
      refine ⟨u,c1,c2,?_⟩
      cases c3
      rw [yd_ k1]
      exact .own (show q0 3=_ from k1)
     ·obtain ⟨u,c1,c2,c3⟩:=a3' 1 _ rfl;exact ⟨u,c1,c2,c3.up (Mem.Le.refl m) (zb_ _)⟩
     ·obtain ⟨u,c1,c2,c3⟩:=a3' 2 _ rfl
      refine ⟨u,c1,c2,?_⟩
      cases c3
      rw [yd_ k2]
      exact .own (show q0 4=_ from k2)
     ·obtain ⟨u,c1,c2,c3⟩:=a3' 3 _ rfl;exact ⟨u,c1,c2,c3.up (Mem.Le.refl m) (zb_ _)⟩
     ·obtain ⟨u,c1,c2,c3⟩:=a3' 4 _ rfl;exact ⟨u,c1,c2,c3.up (Mem.Le.refl m) (zb_ _)⟩
    ·rw [List.getElem?_set_ne ej] at hx
     exact a3.q j x hx
   ·exact Kg.up (Q':=q0) (j':=3) rfl (Mem.Le.refl m) fun b n c k h=>hR0 b (.inr (.inr (.inr (.inl ⟨_,_,_,h⟩))))
   ·exact Ko.up (Q':=q0) (j':=4) rfl (Mem.Le.refl m) fun b n c k h=>hR0 b (.inr (.inr (.inr (.inr ⟨_,_,_,h⟩))))
  ·
   have ofg:∀ {x b},Occ q0 3 (.row 1 x) b→Occ q r3 (.pack Q subs) b:=fun ⟨n,c,k,h⟩=>⟨_,n,c,k,hgl,h⟩
   have ofo:∀ {x b},Occ q0 4 (.row 1 x) b→Occ q r3 (.pack Q subs) b:=fun ⟨n,c,k,h⟩=>⟨_,n,c,k,hol,h⟩
   have A:=C.rok.apart
   have ap:∀ (x y:Nat) z z',rows[x]?=some z→rows[y]?=some z'→z.mut=true→z'.mut=true→Occ q x z b→Occ q y z' b→x≠y→False:=fun x y z z' g1 g2 g3 g4 g5 g6 g7=>g7 (A x y z z' b g1 g2 g3 g4 g5 g6)
   rcases get5 hy with ⟨rfl,rfl⟩|⟨rfl,rfl⟩|⟨rfl,rfl⟩|⟨rfl,rfl⟩|⟨rfl,rfl⟩<;>rcases get5 hy' with ⟨rfl,rfl⟩|⟨rfl,rfl⟩|⟨rfl,rfl⟩|⟨rfl,rfl⟩|⟨rfl,rfl⟩<;>first|rfl|(exfalso;skip)
   ·exact ap r0 r1 _ _ h0 h1 rfl rfl hb hb' n01
   ·exact ap r0 r2 _ _ h0 h2 rfl rfl hb hb' n02
   ·exact ap r0 r3 _ _ h0 h3 rfl rfl hb (ofg hb') n03
   ·exact ap r0 r3 _ _ h0 h3 rfl rfl hb (ofo hb') n03
   ·exact ap r1 r0 _ _ h1 h0 rfl rfl hb hb' n01.symm
   ·exact ap r1 r2 _ _ h1 h2 rfl rfl hb hb' n12
   ·exact ap r1 r3 _ _ h1 h3 rfl rfl hb (ofg hb') n13
   ·exact ap r1 r3 _ _ h1 h3 rfl rfl hb (ofo hb') n13
   ·exact ap r2 r0 _ _ h2 h0 rfl rfl hb hb' n02.symm
   ·exact ap r2 r1 _ _ h2 h1 rfl rfl hb hb' n12.symm
   ·exact ap r2 r3 _ _ h2 h3 rfl rfl hb (ofg hb') n23
   ·exact ap r2 r3 _ _ h2 h3 rfl rfl hb (ofo hb') n23
   ·exact ap r3 r0 _ _ h3 h0 rfl rfl (ofg hb) hb' n03.symm
   ·exact ap r3 r1 _ _ h3 h1 rfl rfl (ofg hb) hb' n13.symm
   ·exact ap r3 r2 _ _ h3 h2 rfl rfl (ofg hb) hb' n23.symm
   ·obtain ⟨n,c,k,hb⟩:=hb
    obtain ⟨n',c',k',hb'⟩:=hb'
    have:=K3.2 _ _ b _ _ _ _ _ _ hgl hol hb hb'
    omega
   ·exact ap r3 r0 _ _ h3 h0 rfl rfl (ofo hb) hb' n03.symm
   ·exact ap r3 r1 _ _ h3 h1 rfl rfl (ofo hb) hb' n13.symm
   ·exact ap r3 r2 _ _ h3 h2 rfl rfl (ofo hb) hb' n23.symm
   ·obtain ⟨n,c,k,hb⟩:=hb
    obtain ⟨n',c',k',hb'⟩:=hb'
    have:=K3.2 _ _ b _ _ _ _ _ _ hol hgl hb hb'
    omega
 have hv0:VRL m q0 (.ptr 0 0 0::args) us:=⟨hv.len,fun j v u hj hu=>by
  cases j with
  | zero =>
   obtain rfl:V.ptr 0 0 0=v:=by simpa using hj
   have:=hv.el 0 _ u rfl hu
   cases this with
   | ptr h=>exact .ptr (show q0 0=_ from h)
  | succ j =>
   have hj':args[j]?=some v:=by simpa using hj
   exact xf_ (pl ha v (List.mem_of_getElem? hj')) (hv.el (j+1) v u (by simpa using hj') hu)⟩
 obtain ⟨hc,hcalls⟩:=HT ⟨w,X0⟩ m _ _ _ R0 m q0 w us C0 hv0 hT
 refine ⟨hc,hcalls.mono fun e w' ⟨u,he,v,rows1,R1,m1,q1,⟨sk',pipes',got',out',a',rd',ov',ra,rb,ex,hpp,hvp,hab,hrows,hra,hrb,hk⟩,C1,hm1,hq1,hvu⟩=>?_⟩
 have e10:rows1[0]?=some (.box [ns,fs,.own 1,.own 2,sk']):=by rw [hrows];rfl
 have e11:rows1[1]?=some (.row 4 pipes'):=by rw [hrows];rfl
 have e12:rows1[2]?=some (.rowq 5 (els.set i (.agg [.own ra,a',.own rb,rd',ov']))):=by rw [hrows];rfl
 clear hrows
 have na:∀ x,rows1[x]?=some (.row 1 got')∨rows1[x]?=some (.row 1 out')→x≠0∧x≠1∧x≠2:=fun x hx=>by
  refine ⟨fun e=>?_,fun e=>?_,fun e=>?_⟩<;>subst e<;>rcases hx with hx|hx
  ·rw [e10] at hx;cases hx
  ·rw [e10] at hx;cases hx
  ·rw [e11] at hx;cases hx
  ·rw [e11] at hx;cases hx
  ·rw [e12] at hx;cases hx
  ·rw [e12] at hx;cases hx
 obtain ⟨na0,na1,na2⟩:=na ra (.inl hra)
 obtain ⟨nb0,nb1,nb2⟩:=na rb (.inr hrb)
 have fr:∀ v∈[ns,fs,sk'],v.pure=true:=fun v hv=>by
  simp only [List.mem_cons,List.not_mem_nil,or_false] at hv
  rcases hv with rfl|rfl|rfl
  ·exact pl hp0 _ (by simp)
  ·exact pl hp0 _ (by simp)
  ·exact pl hpp _ (by simp)
 have D0:=C1.rok.row 0 _ e10
 have D1:RowR R1 m1 q1 1 4 pipes':=C1.rok.row 1 _ e11
 have D2:=C1.rok.row 2 _ e12
 have D3:RowR R1 m1 q1 ra 1 got':=C1.rok.row ra _ hra
 have D4:RowR R1 m1 q1 rb 1 out':=C1.rok.row rb _ hrb
 have blkR:∀ {R m:Mem} {Q:Loc} {j k:Nat} {l:List V} {b n c k':Nat},RowR R m Q j k l→Q j=some (some b,n,c,k')→∃ o,R b=some o:=fun {R m Q j k l b n c k'} h e=>by
  obtain ⟨ob,cap,g1,g2,g3,g4,g5⟩:=h
  rw [g1] at e
  cases e
  obtain ⟨arr,T,fz,g6,-⟩:=g5 b rfl
  exact ⟨_,g6⟩
 have hin1:∀ b o,R1 b=some o→w.heap.size≤b∨b∈X0:=fun b o h=>(C1.sit.own b o h).1
 let R':Mem:=fun b=>if b∈X0∨w.heap.size≤b then R1 b else R b
 have hR'x:∀ b,b∈X0→R' b=R1 b:=fun b h=>if_pos (.inl h)
 have hR'1:∀ b o,R1 b=some o→R' b=R1 b:=fun b o h=>if_pos (hin1 b o h).symm
 have hR'n:∀ b,b ∉ X0→b < w.heap.size→R' b=R b:=fun b h h2=>if_neg fun h3=>by
  rcases h3 with h3|h3
  ·exact h h3
  ·omega
 have hold:∀ b o,R b=some o→b ∉ X0→w'.heap[b]?=some o∧m1 b=none:=fun b o hb hx=>by
  obtain ⟨g1,g2,g3⟩:=C.sit.own b o hb
  have hlt:=C.sit.lt hb
  refine ⟨by rw [C1.sit.bel.block b hlt hx];exact g2,?_⟩
  cases hm:m1 b with
  | none=>rfl
  | some o' =>
   have:=C1.sit.low b o' hm hlt hx
   rw [g3] at this
   cases this
 obtain ⟨ob1,cp1,k1,-⟩:=K1
 have Q1:q1 1=q r1:=by rw [k1];exact hq1 1 _ (show q0 1=_ from k1)
 obtain ⟨ob2,cp2,k2,-⟩:=K2
 have Q2:q1 2=q r2:=by rw [k2];exact hq1 2 _ (show q0 2=_ from k2)
 have Q0:q1 0=q r0:=by rw [e0];exact hq1 0 _ (show q0 0=_ from e0)
 let Q':Loc:=fun j=>if j=2*i then q1 ra else if j=2*i+1 then q1 rb else Q j
 have QA:Q' (2*i)=q1 ra:=if_pos rfl
 have QB:Q' (2*i+1)=q1 rb:=by
  show (if 2*i+1=2*i then _ else _)=_
  rw [if_neg (by omega),if_pos rfl]
 have QC:∀ j,j≠2*i→j≠2*i+1→Q' j=Q j:=fun j h1 h2=>by
  show (if j=2*i then _ else _)=_
  rw [if_neg h1,if_neg h2]
 have inx:∀ b,inX b→R' b=R1 b:=fun b h=>hR'x b ((hX b).2 h)
 have l0:=(List.getElem?_eq_some_iff.1 h0).1
 have l1:=(List.getElem?_eq_some_iff.1 h1).1
 have l2:=(List.getElem?_eq_some_iff.1 h2).1
 have l3:=(List.getElem?_eq_some_iff.1 h3).1
 have old:∀ {A B D E:Row} (j:Nat) z,((((rows.set r0 A).set r1 B).set r2 D).set r3 E)[j]?=some z→(j=r0∧z=A)∨(j=r1∧z=B)∨(j=r2∧z=D)∨(j=r3∧z=E)∨(j≠r0∧j≠r1∧j≠r2∧j≠r3∧rows[j]?=some z):=fun {A B D E} j z hz=>by
  by_cases g3:r3=j
  ·subst g3
   rw [List.getElem?_set_self (by simpa using l3)] at hz
   cases hz
   exact .inr (.inr (.inr (.inl ⟨rfl,rfl⟩)))
  rw [List.getElem?_set_ne g3] at hz
  by_cases g2:r2=j
  ·subst g2
   rw [List.getElem?_set_self (by simpa using l2)] at hz
   cases hz
   exact .inr (.inr (.inl ⟨rfl,rfl⟩))
  rw [List.getElem?_set_ne g2] at hz
  by_cases g1:r1=j
  ·subst g1
   rw [List.getElem?_set_self (by simpa using l1)] at hz
   cases hz
   exact .inr (.inl ⟨rfl,rfl⟩)
  rw [List.getElem?_set_ne g1] at hz
  by_cases g0:r0=j
  ·subst g0
   rw [List.getElem?_set_self l0] at hz
   cases hz
   exact .inl ⟨rfl,rfl⟩
  rw [List.getElem?_set_ne g0] at hz
  exact .inr (.inr (.inr (.inr ⟨fun h=>g0 h.symm,fun h=>g1 h.symm,fun h=>g2 h.symm,fun h=>g3 h.symm,hz⟩)))
 have ltR:∀ (j:Nat) z b,rows[j]?=some z→z.mut=true→Occ q j z b→b < w.heap.size:=fun j z b hz hy hb=>by
  obtain ⟨o,ho⟩:=z1_ (C.rok.row j z hz) hy hb
  exact C.sit.lt ho
 refine ⟨u,he,v,_,R',m1,q,hk Q' QC,⟨⟨?_,?_,C1.sit.mem,?_,C1.sit.glob⟩,⟨?_,?_,?_⟩⟩,hm1,Loc.Le.refl q,?_⟩
 ·refine C.sit.bel.then C1.sit.bel fun b hb=>?_
  obtain ⟨o,ho⟩:=hRX b hb
  exact (C.sit.own b o ho).1
 ·intro b o hb
  by_cases hx:b∈X0
  ·rw [hR'x b hx] at hb
   obtain ⟨-,g2,g3⟩:=C1.sit.own b o hb
   obtain ⟨o',ho'⟩:=hRX b hx
   exact ⟨(C.sit.own b o' ho').1,g2,g3⟩
  ·by_cases hs:w.heap.size≤b
   ·rw [show R' b=R1 b from if_pos (.inr hs)] at hb
    obtain ⟨-,g2,g3⟩:=C1.sit.own b o hb
    exact ⟨.inl (Nat.le_trans C.sit.bel.size hs),g2,g3⟩
   ·rw [hR'n b hx (by omega)] at hb
    obtain ⟨g2,g3⟩:=hold b o hb hx
    exact ⟨(C.sit.own b o hb).1,g2,g3⟩
 ·intro b o hb hlt hx
  have hlt2:b < w.heap.size:=Nat.lt_of_lt_of_le hlt C.sit.bel.size
  have hx0:b ∉ X0:=fun hx0=>by
   obtain ⟨o',ho'⟩:=hRX b hx0
   rcases (C.sit.own b o' ho').1 with g|g
   ·omega
   ·exact hx g
  exact C.sit.low b o (C1.sit.low b o hb hlt2 hx0) hlt hx
 ·intro r x hr
  simp only [List.length_set]
  exact C.rok.fresh r x hr
 ·intro j z hz
  rcases old j z hz with ⟨rfl,rfl⟩|⟨rfl,rfl⟩|⟨rfl,rfl⟩|⟨rfl,rfl⟩|⟨g0,g1,g2,g3,hz⟩
  ·obtain ⟨b,arr,T,x1,x2,-,x3,x4⟩:=D0
   rw [Q0] at x1
   refine ⟨b,arr,T,x1,(inx b (.inl ⟨_,_,_,x1⟩)).trans x2,(fun T' h=>by cases h),x3,fun c v hc=>?_⟩
   rcases get5 hc with ⟨rfl,rfl⟩|⟨rfl,rfl⟩|⟨rfl,rfl⟩|⟨rfl,rfl⟩|⟨rfl,rfl⟩
   ·obtain ⟨u,y1,y2,y3⟩:=x4 0 _ rfl;exact ⟨u,y1,y2,xf_ (fr _ (by simp)) y3⟩
   ·obtain ⟨u,y1,y2,y3⟩:=x4 1 _ rfl;exact ⟨u,y1,y2,xf_ (fr _ (by simp)) y3⟩
   ·obtain ⟨u,y1,y2,y3⟩:=x4 2 _ rfl
    refine ⟨u,y1,y2,?_⟩
    cases y3 with|own h=>rw [Q1] at h;exact .own h
   ·obtain ⟨u,y1,y2,y3⟩:=x4 3 _ rfl
    refine ⟨u,y1,y2,?_⟩
    cases y3 with|own h=>rw [Q2] at h;exact .own h
   ·obtain ⟨u,y1,y2,y3⟩:=x4 4 _ rfl;exact ⟨u,y1,y2,xf_ (fr _ (by simp)) y3⟩
  ·exact D1.up (Q':=q) Q1.symm (Mem.Le.refl m1) fun b n c k h=>inx b (.inr (.inl ⟨n,c,k,by rw [←Q1];exact h⟩))
  ·obtain ⟨ob,cap,x1,x2,x3,x4,x5⟩:=D2
   rw [Q2] at x1
   rw [List.length_set] at x1 x2
   refine ⟨ob,cap,by rw [List.length_set];exact x1,by rw [List.length_set];exact x2,x3,x4,fun b hb=>?_⟩
   obtain ⟨arr,T,fz,y1,y2,y3,y4⟩:=x5 b hb
   refine ⟨arr,T,fz,(inx b (.inr (.inr (.inl ⟨_,_,_,by rw [x1,hb]⟩)))).trans y1,y2,fun j x hx=>?_,y4⟩
   by_cases ej:i=j
   ·subst ej
    rw [List.getElem?_set_self hil] at hx
    cases hx
    obtain ⟨-,y3'⟩:=y3 i _ (by rw [List.getElem?_set_self hil])
    refine ⟨rfl,fun c v hc=>?_⟩
    rcases get5 hc with ⟨rfl,rfl⟩|⟨rfl,rfl⟩|⟨rfl,rfl⟩|⟨rfl,rfl⟩|⟨rfl,rfl⟩
    ·obtain ⟨u,c1,c2,c3⟩:=y3' 0 _ rfl
     refine ⟨u,c1,c2,?_⟩
     cases c3 with
     | own h =>
      rw [←QA] at h
      rw [yd_ h]
      exact .raw
    ·obtain ⟨u,c1,c2,c3⟩:=y3' 1 _ rfl;exact ⟨u,c1,c2,c3.free (pl hpp _ (by simp))⟩
    ·obtain ⟨u,c1,c2,c3⟩:=y3' 2 _ rfl
     refine ⟨u,c1,c2,?_⟩
     cases c3 with
     | own h =>
      rw [←QB] at h
      rw [yd_ h]
      exact .raw
    ·obtain ⟨u,c1,c2,c3⟩:=y3' 3 _ rfl;exact ⟨u,c1,c2,c3.free (pl hpp _ (by simp))⟩
    ·obtain ⟨u,c1,c2,c3⟩:=y3' 4 _ rfl;exact ⟨u,c1,c2,c3.free (pl hpp _ (by simp))⟩
   ·rw [List.getElem?_set_ne ej] at hx
    obtain ⟨z1,z2⟩:=y3 j x (by rw [List.getElem?_set_ne ej];exact hx)
    refine ⟨z1,fun c v hc=>?_⟩
    obtain ⟨u,c1,c2,c3⟩:=z2 c v hc
    exact ⟨u,c1,c2,c3.free (pl (hpe x (List.mem_of_getElem? hx)) v (List.mem_of_getElem? hc))⟩
  ·refine ⟨fun j els' hj=>?_,fun j j' b n c k n' c' k' hj hj' g g'=>?_⟩
   ·by_cases e1:2*i+1=j
    ·subst e1
     rw [List.getElem?_set_self (by rw [List.length_set];exact hol)] at hj
     cases hj
     exact D4.up (Q':=Q') QB (Mem.Le.refl m1) fun b n c k h=>by
      obtain ⟨o,ho⟩:=blkR D4 h
      exact hR'1 b o ho
    ·rw [List.getElem?_set_ne e1] at hj
     by_cases e2:2*i=j
     ·subst e2
      rw [List.getElem?_set_self hgl] at hj
      cases hj
      exact D3.up (Q':=Q') QA (Mem.Le.refl m1) fun b n c k h=>by
       obtain ⟨o,ho⟩:=blkR D3 h
       exact hR'1 b o ho
     ·rw [List.getElem?_set_ne e2] at hj
      have hjl:=(List.getElem?_eq_some_iff.1 hj).1
      have hK:RowR R m Q j 1 els':=K3.1 j _ hj
      refine hK.up (Q':=Q') (QC j (fun e=>e2 e.symm) (fun e=>e1 e.symm)) hm1 fun b n c k h=>?_
      obtain ⟨o,ho⟩:=blkR hK h
      exact hR'n b (hfreeQ j b n c k hjl h (fun e=>e2 e.symm) (fun e=>e1 e.symm)) (C.sit.lt ho)
   ·rw [List.length_set,List.length_set] at hj hj'
    have new:∀ x,x < subs.length→∀ n c k,Q' x=some (some b,n,c,k)→(x=2*i∧Occ q1 ra (.row 1 got') b)∨(x=2*i+1∧Occ q1 rb (.row 1 out') b)∨(x≠2*i∧x≠2*i+1∧Q x=some (some b,n,c,k)):=fun x hx n c k h=>by
     by_cases e1:x=2*i
     ·subst e1;rw [QA] at h;exact .inl ⟨rfl,_,_,_,h⟩
     by_cases e2:x=2*i+1
     ·subst e2;rw [QB] at h;exact .inr (.inl ⟨rfl,_,_,_,h⟩)
     rw [QC x e1 e2] at h
     exact .inr (.inr ⟨e1,e2,h⟩)
    have oth:∀ x n c k,x < subs.length→x≠2*i→x≠2*i+1→Q x=some (some b,n,c,k)→(∃ o,R1 b=some o)→False:=fun x n c k hx e1 e2 h ⟨o,ho⟩=>by
     have hK:RowR R m Q x 1 subs[x]:=K3.1 x _ (List.getElem?_eq_getElem hx)
     obtain ⟨o',ho'⟩:=blkR hK h
     have lt:=C.sit.lt ho'
     rcases hin1 b o ho with g|g
     ·omega
     ·exact hfreeQ x b n c k hx h e1 e2 g
    have nA:Occ q1 ra (.row 1 got') b→∃ o,R1 b=some o:=fun ⟨n,c,k,h⟩=>blkR D3 h
    have nB:Occ q1 rb (.row 1 out') b→∃ o,R1 b=some o:=fun ⟨n,c,k,h⟩=>blkR D4 h
    rcases new j hj _ _ _ g with ⟨e,o⟩|⟨e,o⟩|⟨e1,e2,o⟩<;>rcases new j' hj' _ _ _ g' with ⟨e',o'⟩|⟨e',o'⟩|⟨e1',e2',o'⟩
    ·omega
    ·exact absurd (C1.rok.apart ra rb _ _ b hra hrb rfl rfl o o') hab
    ·exact (oth j' _ _ _ hj' e1' e2' o' (nA o)).elim
    ·exact absurd (C1.rok.apart ra rb _ _ b hra hrb rfl rfl o' o) hab
    ·omega
    ·exact (oth j' _ _ _ hj' e1' e2' o' (nB o)).elim
    ·exact (oth j _ _ _ hj e1 e2 o (nA o')).elim
    ·exact (oth j _ _ _ hj e1 e2 o (nB o')).elim
    ·exact K3.2 j j' b _ _ _ _ _ _ hj hj' o o'
  ·exact (C.rok.row j z hz).up hm1 (Loc.Le.refl q) fun hy b hb=>hR'n b (hfree j z b hz hy hb g0 g1 g2 g3) (ltR j z b hz hy hb)
 ·intro j j' z z' b hz hz' hm hm' hb hb'
  have back:∀ (j:Nat) z,((((rows.set r0 (.box [ns,fs,.own r1,.own r2,sk'])).set r1 (.row 4 pipes')).set r2 (.row 5 (els.set i (.agg [.raw (rawQ Q' (2*i)),a',.raw (rawQ Q' (2*i+1)),rd',ov'])))).set r3 (.pack Q' ((subs.set (2*i) got').set (2*i+1) out')))[j]?=some z→z.mut=true→Occ q j z b→(∃ z0,rows[j]?=some z0∧z0.mut=true∧Occ q j z0 b)∨(j=r3∧∃ x y,(x=ra∨x=rb)∧rows1[x]?=some (.row 1 y)∧Occ q1 x (.row 1 y) b):=fun j z hz hm hb=>by
   rcases old j z hz with ⟨rfl,rfl⟩|⟨rfl,rfl⟩|⟨rfl,rfl⟩|⟨rfl,rfl⟩|⟨-,-,-,-,hz⟩
   ·exact .inl ⟨_,h0,rfl,hb⟩
   ·exact .inl ⟨_,h1,rfl,hb⟩
   ·exact .inl ⟨_,h2,rfl,hb⟩
   ·obtain ⟨x,n,c,k,hx,hQ⟩:=hb
    rw [List.length_set,List.length_set] at hx
    by_cases e1:x=2*i
    ·subst e1;rw [QA] at hQ;exact .inr ⟨rfl,ra,got',.inl rfl,hra,_,_,_,hQ⟩
    by_cases e2:x=2*i+1
    ·subst e2;rw [QB] at hQ;exact .inr ⟨rfl,rb,out',.inr rfl,hrb,_,_,_,hQ⟩
    rw [QC x e1 e2] at hQ
    exact .inl ⟨_,h3,rfl,x,n,c,k,hx,hQ⟩
   ·exact .inl ⟨z,hz,hm,hb⟩
  have clash:∀ j z0,rows[j]?=some z0→z0.mut=true→Occ q j z0 b→j≠r3→∀ x y,(x=ra∨x=rb)→rows1[x]?=some (.row 1 y)→Occ q1 x (.row 1 y) b→False:=fun j z0 hz0 hy hb0 hn x y hx hxr hxo=>by
   have hx0:x≠0∧x≠1∧x≠2:=by exact hx.elim (fun e=>e ▸ ⟨na0,na1,na2⟩) (fun e=>e ▸ ⟨nb0,nb1,nb2⟩)
   by_cases g0:j=r0
   ·subst g0
    rw [h0] at hz0;cases hz0
    obtain ⟨n,c,k,h⟩:=hb0
    exact hx0.1 (C1.rok.apart x 0 _ _ b hxr e10 rfl rfl hxo ⟨n,c,k,Q0.trans h⟩)
   by_cases g1:j=r1
   ·subst g1
    rw [h1] at hz0;cases hz0
    obtain ⟨n,c,k,h⟩:=hb0
    exact hx0.2.1 (C1.rok.apart x 1 _ _ b hxr e11 rfl rfl hxo ⟨n,c,k,Q1.trans h⟩)
   by_cases g2:j=r2
   ·subst g2
    rw [h2] at hz0;cases hz0
    obtain ⟨n,c,k,h⟩:=hb0
    exact hx0.2.2 (C1.rok.apart x 2 _ _ b hxr e12 rfl rfl hxo ⟨n,c,k,Q2.trans h⟩)
   have hlt:=ltR j z0 b hz0 hy hb0
   have hnx:=hfree j z0 b hz0 hy hb0 g0 g1 g2 hn
   obtain ⟨n,c,k,h⟩:=hxo
   have hD:RowR R1 m1 q1 x 1 y:=C1.rok.row x _ hxr
   obtain ⟨o,ho⟩:=blkR hD h
   rcases hin1 b o ho with g|g
   ·omega
   ·exact hnx g
  rcases back j z hz hm hb with ⟨y,g1,g2,g3⟩|⟨e,x,y,g1,g2,g3⟩<;>rcases back j' z' hz' hm' hb' with ⟨y',g1',g2',g3'⟩|⟨e',x',y',g1',g2',g3'⟩
  ·exact C.rok.apart j j' y y' b g1 g1' g2 g2' g3 g3'
  ·by_cases hj:j=r3
   ·rw [hj,e']
   ·exact (clash j y g1 g2 g3 hj x' y' g1' g2' g3').elim
  ·by_cases hj:j'=r3
   ·rw [hj,e]
   ·exact (clash j' y' g1' g2' g3' hj x y g1 g2 g3).elim
  ·rw [e,e']
 ·rcases hvp with hp|rfl
  ·exact xf_ hp hvu
  ·cases hvu with
   | @tup _ _ us hl he=>exact .tup hl fun i v u e=>by simp at e
def focQ (m:MachS) (i:Nat) (els:List V) (a b:Nat):Rows:=[.box [.sl qh_ m.g,.sl qq_ m.f,.own 1,.own 2,.sl qd_ m.sunk],.row 4 (m.pipes.map qk_),.rowq 5 (els.set i (.agg [.own a,.int .i64 (pr m i).pos,.own b,.bool (pr m i).read,.bool (pr m i).over]))]
def zb4_ (Z:MachS→Nat→Prop):qn_:=fun args rows K=>∃ (m:MachS) (i:Nat) (els:List V),args=[.ptr 0 0 0,.int .i64 i]∧FocOK m i els∧Z m i∧rows=focR m i els ∧
 ∀ a b ex,a≠b→(focQ (qv_ m i).1 i els a b++ex)[a]?=some (.row 1 ((pr (qv_ m i).1 i).got.map blV))→(focQ (qv_ m i).1 i els a b++ex)[b]?=some (.row 1 ((pr (qv_ m i).1 i).out.map blV))→K (.int .i64 (qv_ m i).2) (focQ (qv_ m i).1 i els a b++ex)
def zdt_ (Z:MachS→Nat→Prop):qn_:=fun args rows K=>∃ (m:MachS) (i r0 r1 r2 r3:Nat) (Q:Loc),args=[.ptr r0 0 0,.int .i64 i] ∧
 rows[r0]?=some (.box [.sl qh_ m.g,.sl qq_ m.f,.own r1,.own r2,.sl qd_ m.sunk])∧rows[r1]?=some (.row 4 (m.pipes.map qk_))∧rows[r2]?=some (.row 5 (qo_ Q m.p))∧rows[r3]?=some (.pack Q (q3_ m.p)) ∧
 FocOK m i (qo_ Q m.p)∧Z m i∧∀ Q',K (.int .i64 (qv_ m i).2) (qjj_ rows r0 r1 r2 r3 Q' (qv_ m i).1)
theorem qqk_ {Q Q':Loc} {i:Nat} {p:ProcS} {ps:List ProcS} (hQ:∀ j,j≠2*i→j≠2*i+1→Q' j=Q j):(qo_ Q ps).set i (vy_ Q' i p)=qo_ Q' (ps.set i p):=by
 unfold qo_
 refine List.ext_getElem? fun j=>?_
 rw [List.getElem?_mapIdx,List.getElem?_set,List.getElem?_set,List.length_mapIdx,List.getElem?_mapIdx]
 split
 ·rename_i e
  subst e
  split
  ·rfl
  ·rfl
 ·rename_i e
  have e1:rawQ Q' (2*j)=rawQ Q (2*j):=by unfold rawQ;rw [hQ _ (by omega) (by omega)]
  have e2:rawQ Q' (2*j+1)=rawQ Q (2*j+1):=by unfold rawQ;rw [hQ _ (by omega) (by omega)]
  unfold vy_
  rw [e1,e2]
theorem qrb_ {P:Program} {f:FuncId} {Z:MachS→Nat→Prop} (HT:q1_ P f (zb4_ Z)):q1_ P f (zdt_ Z):=by
 intro w0 m0 args rows k R m' q w us C hv hT
 obtain ⟨m,i,r0,r1,r2,r3,Q,rfl,h0,h1,h2,h3,hF,hZ,hK⟩:=hT
 have hi:i < m.p.length:=by rw [hF.np];exact hF.lt
 have hpi:m.p[i]?=some (pr m i):=by
  unfold pr
  rw [List.getD_eq_getElem?_getD,List.getElem?_eq_getElem hi];rfl
 obtain ⟨g1,g2⟩:=qcn_ hpi
 have ho:=qfl_ (m:=m) hi
 generalize hs:qv_ m i=s at hK ho
 obtain ⟨m2,e⟩:=s
 dsimp only at hK ho
 refine qzc_ HT (r0:=r0) (r1:=r1) (r2:=r2) (r3:=r3) (i:=i) (a:=.int .i64 (pr m i).pos) (rd:=.bool (pr m i).read) (ov:=.bool (pr m i).over) C hv rfl h0 rfl h1 h2 h3 vi_ (vz_ hpi) g1 g2 ⟨m,i,qo_ Q m.p,rfl,hF,hZ,rfl,fun a b ex hab ha hb=>?_⟩
 rw [hs] at ha hb ⊢
 refine ⟨.sl qd_ m2.sunk,m2.pipes.map qk_,(pr m2 i).got.map blV,(pr m2 i).out.map blV,.int .i64 (pr m2 i).pos,.bool (pr m2 i).read,.bool (pr m2 i).over,a,b,ex,rfl,.inl rfl,hab,?_,ha,hb,fun Q' hQ=>?_⟩
 ·unfold focQ
  rw [ho.g,ho.f]
 ·have e1:(qo_ Q m.p).set i (vy_ Q' i (pr m2 i))=qo_ Q' m2.p:=by rw [qqk_ hQ,←ho.p]
  have e2:((q3_ m.p).set (2*i) ((pr m2 i).got.map blV)).set (2*i+1) ((pr m2 i).out.map blV)=q3_ m2.p:=by rw [qdm_ hi,←ho.p]
  have hK':=hK Q'
  unfold qjj_ at hK'
  rw [ho.g,ho.f,←e1,←e2] at hK'
  exact hK'
end
end Gv
end PartFo9
section PartFo10
namespace Gv
open Go Go.RowKit Gw Gp
variable [Glob]
theorem qrg_ {nb:Nat} {L:qe_} {rows:Rows} {G:qe_→Rows→Prop} (r2 r3 ra rb i:Nat) {Q:Loc} {subs:List (List V)} {got out:List V} {a rd ov:V}
  (h2:rows[r2]?=some (.box [.own ra,a,.own rb,rd,ov])) (h3:rows[r3]?=some (.pack Q subs)) (ha:rows[ra]?=some (.row 1 got)) (hb:rows[rb]?=some (.row 1 out)) (hab:ra≠rb)
  (hl:subs.length=2*i)
  (hG:∀ Q':Loc,(∀ j,j < 2*i→Q' j=Q j)→G L ((((rows.set r2 (.box [.raw (rawQ Q' (2*i)),a,.raw (rawQ Q' (2*i+1)),rd,ov])).set r3 (.pack Q' (subs++[got,out]))).set ra .dead).set rb .dead)) :
  WkE nb L rows G:=by
 have n23:r2≠r3:=fun e=>by subst e;rw [h2] at h3;cases h3
 have n2a:r2≠ra:=fun e=>by subst e;rw [h2] at ha;cases ha
 have n2b:r2≠rb:=fun e=>by subst e;rw [h2] at hb;cases hb
 have n3a:r3≠ra:=fun e=>by subst e;rw [h3] at ha;cases ha
 have n3b:r3≠rb:=fun e=>by subst e;rw [h3] at hb;cases hb
 have l2:=(List.getElem?_eq_some_iff.1 h2).1
 have l3:=(List.getElem?_eq_some_iff.1 h3).1
 have la:=(List.getElem?_eq_some_iff.1 ha).1
 have lb:=(List.getElem?_eq_some_iff.1 hb).1
 refine ⟨?_⟩
 rintro w0 m0 mb qb n act w hqb ⟨⟨R,m,q,s1,s2,s3,s4,s5⟩,s6,s7⟩
 let Q':Loc:=fun j=>if j=2*i then q ra else if j=2*i+1 then q rb else Q j
 have qa:Q' (2*i)=q ra:=if_pos rfl
 have qb':Q' (2*i+1)=q rb:=by show (if 2*i+1=2*i then q ra else if 2*i+1=2*i+1 then q rb else Q (2*i+1))=q rb;rw [if_neg (by omega),if_pos rfl]
 have qo:∀ j,j < 2*i→Q' j=Q j:=fun j hj=>by simp only [Q'];rw [if_neg (by omega),if_neg (by omega)]
 have Ka:RowR R m q ra 1 got:=s2.row ra _ ha
 have Kb:RowR R m q rb 1 out:=s2.row rb _ hb
 have K3:=s2.row r3 _ h3
 have old:∀ {A B:Row} (j:Nat) z,((((rows.set r2 A).set r3 B).set ra .dead).set rb .dead)[j]?=some z→(j=r2∧z=A)∨(j=r3∧z=B)∨z=.dead∨(j≠r2∧j≠r3∧j≠ra∧j≠rb∧rows[j]?=some z):=fun {A B} j z hz=>by
  by_cases gb:rb=j
  ·subst gb
   rw [List.getElem?_set_self (by simpa using lb)] at hz
   cases hz
   exact .inr (.inr (.inl rfl))
  rw [List.getElem?_set_ne gb] at hz
  by_cases ga:ra=j
  ·subst ga
   rw [List.getElem?_set_self (by simpa using la)] at hz
   cases hz
   exact .inr (.inr (.inl rfl))
  rw [List.getElem?_set_ne ga] at hz
  by_cases g3:r3=j
  ·subst g3
   rw [List.getElem?_set_self (by simpa using l3)] at hz
   cases hz
   exact .inr (.inl ⟨rfl,rfl⟩)
  rw [List.getElem?_set_ne g3] at hz
  by_cases g2:r2=j
  ·subst g2
   rw [List.getElem?_set_self l2] at hz
   cases hz
   exact .inl ⟨rfl,rfl⟩
  rw [List.getElem?_set_ne g2] at hz
  exact .inr (.inr (.inr ⟨fun h=>g2 h.symm,fun h=>g3 h.symm,fun h=>ga h.symm,fun h=>gb h.symm,hz⟩))
 have sub2:∀ (j:Nat) x,(subs++[got,out])[j]?=some x→(j < 2*i∧subs[j]?=some x)∨(j=2*i∧x=got)∨(j=2*i+1∧x=out):=fun j x hx=>by
  rcases Nat.lt_or_ge j subs.length with h|h
  ·rw [List.getElem?_append_left h] at hx;exact .inl ⟨by omega,hx⟩
  ·rw [List.getElem?_append_right h,hl] at hx
   rcases Nat.lt_or_ge j (2*i+1) with g|g
   ·have:j-2*i=0:=by omega
    rw [this] at hx;simp at hx;exact .inr (.inl ⟨by omega,hx.symm⟩)
   ·rcases Nat.lt_or_ge j (2*i+2) with g'|g'
    ·have:j-2*i=1:=by omega
     rw [this] at hx;simp at hx;exact .inr (.inr ⟨by omega,hx.symm⟩)
    ·rw [List.getElem?_eq_none (by simp;omega)] at hx;cases hx
 have occ3:∀ b,Occ q r3 (.pack Q' (subs++[got,out])) b→Occ q r3 (.pack Q subs) b∨Occ q ra (.row 1 got) b∨Occ q rb (.row 1 out) b:=fun b ⟨j,n,c,k,hj,hQ⟩=>by
  simp only [List.length_append,List.length_cons,List.length_nil,hl] at hj
  by_cases e1:j=2*i
  ·subst e1;rw [qa] at hQ;exact .inr (.inl ⟨n,c,k,hQ⟩)
  ·by_cases e2:j=2*i+1
   ·subst e2;rw [qb'] at hQ;exact .inr (.inr ⟨n,c,k,hQ⟩)
   ·rw [qo j (by omega)] at hQ
    exact .inl ⟨j,n,c,k,by omega,hQ⟩
 refine ⟨L,_,hG Q' qo,⟨R,m,q,s1,⟨fun r x h=>by simpa using s2.fresh r x h,fun j z hz=>?_,fun j j' z z' b hz hz' hy hy' ho ho'=>?_⟩,s3,s4,s5⟩,s6,s7⟩
 ·rcases old j z hz with ⟨rfl,rfl⟩|⟨rfl,rfl⟩|rfl|⟨-,-,-,-,hz⟩
  ·obtain ⟨b,arr,T,x1,x2,x3,x4,x5⟩:=s2.row j _ h2
   refine ⟨b,arr,T,x1,x2,(fun T' h=>by cases h),x4,fun c v hc=>?_⟩
   rcases get5 hc with ⟨rfl,rfl⟩|⟨rfl,rfl⟩|⟨rfl,rfl⟩|⟨rfl,rfl⟩|⟨rfl,rfl⟩
   ·obtain ⟨u,c1,c2,c3⟩:=x5 0 _ rfl
    refine ⟨u,c1,c2,?_⟩
    cases c3 with
    | own h=>rw [yd_ (qa.trans h)];exact .raw
   ·exact x5 1 _ rfl
   ·obtain ⟨u,c1,c2,c3⟩:=x5 2 _ rfl
    refine ⟨u,c1,c2,?_⟩
    cases c3 with
    | own h=>rw [yd_ (qb'.trans h)];exact .raw
   ·exact x5 3 _ rfl
   ·exact x5 4 _ rfl
  ·refine ⟨fun k x hk=>?_,fun k k' b n c kk n' c' kk' hk hk' hQ hQ'=>?_⟩
   ·rcases sub2 k x hk with ⟨g1,g2⟩|⟨rfl,rfl⟩|⟨rfl,rfl⟩
    ·have hK:RowR R m Q k 1 x:=K3.1 k _ g2
     exact hK.up (Q':=Q') (qo k g1) (Mem.Le.refl m) fun _ _ _ _ _=>rfl
    ·exact Ka.up (Q':=Q') qa (Mem.Le.refl m) fun _ _ _ _ _=>rfl
    ·exact Kb.up (Q':=Q') qb' (Mem.Le.refl m) fun _ _ _ _ _=>rfl
   ·simp only [List.length_append,List.length_cons,List.length_nil,hl] at hk hk'
    have cls:∀ k,k < 2*i+(0+1+1)→k < 2*i∨k=2*i∨k=2*i+1:=fun k h=>by omega
    have A:=s2.apart
    rcases cls k hk with h|rfl|rfl<;>rcases cls k' hk' with h'|rfl|rfl
    ·rw [qo k h] at hQ;rw [qo k' h'] at hQ'
     exact K3.2 k k' b _ _ _ _ _ _ (by omega) (by omega) hQ hQ'
    ·rw [qo k h] at hQ;rw [qa] at hQ'
     exact absurd (A j ra _ _ b h3 ha rfl rfl ⟨k,_,_,_,by omega,hQ⟩ ⟨_,_,_,hQ'⟩) n3a
    ·rw [qo k h] at hQ;rw [qb'] at hQ'
     exact absurd (A j rb _ _ b h3 hb rfl rfl ⟨k,_,_,_,by omega,hQ⟩ ⟨_,_,_,hQ'⟩) n3b
    ·rw [qa] at hQ;rw [qo k' h'] at hQ'
     exact absurd (A j ra _ _ b h3 ha rfl rfl ⟨k',_,_,_,by omega,hQ'⟩ ⟨_,_,_,hQ⟩) n3a
    ·rfl
    ·rw [qa] at hQ;rw [qb'] at hQ'
     exact absurd (A ra rb _ _ b ha hb rfl rfl ⟨_,_,_,hQ⟩ ⟨_,_,_,hQ'⟩) hab
    ·rw [qb'] at hQ;rw [qo k' h'] at hQ'
     exact absurd (A j rb _ _ b h3 hb rfl rfl ⟨k',_,_,_,by omega,hQ'⟩ ⟨_,_,_,hQ⟩) n3b
    ·rw [qb'] at hQ;rw [qa] at hQ'
     exact absurd (A ra rb _ _ b ha hb rfl rfl ⟨_,_,_,hQ'⟩ ⟨_,_,_,hQ⟩) hab
    ·rfl
  ·trivial
  ·exact s2.row j z hz
 ·have back : ∀ (j : Nat) z, ((((rows.set r2 (.box [.raw (rawQ Q' (2 * i)), a, .raw (rawQ Q' (2 * i + 1)), rd, ov])).set r3 (.pack Q' (subs ++ [got, out]))).set ra .dead).set rb .dead)[j]? = some z → z.mut = true → Occ q j z b →
      ∃ g z0,rows[g]?=some z0∧z0.mut=true∧Occ q g z0 b∧(g=j∨(j=r3∧(g=ra∨g=rb)))∧j≠ra∧j≠rb:=fun j z hz hm hb0=>by
   rcases old j z hz with ⟨rfl,rfl⟩|⟨rfl,rfl⟩|rfl|⟨g2,g3,ga,gb,hz⟩
   ·exact ⟨_,_,h2,rfl,hb0,.inl rfl,n2a,n2b⟩
   ·rcases occ3 b hb0 with h|h|h
    ·exact ⟨_,_,h3,rfl,h,.inl rfl,n3a,n3b⟩
    ·exact ⟨_,_,ha,rfl,h,.inr ⟨rfl,.inl rfl⟩,n3a,n3b⟩
    ·exact ⟨_,_,hb,rfl,h,.inr ⟨rfl,.inr rfl⟩,n3a,n3b⟩
   ·cases hm
   ·exact ⟨_,z,hz,hm,hb0,.inl rfl,ga,gb⟩
  obtain ⟨g,y,g1,g2,g3,g4,g5,g6⟩:=back j z hz hy ho
  obtain ⟨g',y',g1',g2',g3',g4',g5',g6'⟩:=back j' z' hz' hy' ho'
  have e:=s2.apart g g' y y' b g1 g1' g2 g2' g3 g3'
  rcases g4 with rfl|⟨rfl,g4⟩<;>rcases g4' with rfl|⟨rfl,g4'⟩
  ·exact e
  ·rcases g4' with rfl|rfl
   ·exact absurd e g5
   ·exact absurd e g6
  ·rcases g4 with rfl|rfl
   ·exact absurd e.symm g5'
   ·exact absurd e.symm g6'
  ·rfl
theorem q10_ (Q:Loc) (j:Nat):∃ o n c,rawQ Q j=.slice o n c:=by
 unfold rawQ
 split
 ·exact ⟨_,_,_,rfl⟩
 ·exact ⟨_,_,_,rfl⟩
theorem qrh_ {nb:Nat} {L:qe_} {rows:Rows} {G:qe_→Rows→Prop} (r2 r3 ra rb i:Nat) {Q:Loc} {subs:List (List V)} {got out:List V} {a rd ov:V}
  (h2:rows[r2]?=some (.box [.own ra,a,.own rb,rd,ov])) (h3:rows[r3]?=some (.pack Q subs)) (ha:rows[ra]?=some (.row 1 got)) (hb:rows[rb]?=some (.row 1 out)) (hab:ra≠rb)
  (hl:subs.length=2*i)
  (hG:∀ (Q':Loc) o1 n1 c1 o2 n2 c2,(∀ j,j < 2*i→Q' j=Q j)→rawQ Q' (2*i)=.slice o1 n1 c1→rawQ Q' (2*i+1)=.slice o2 n2 c2→G L ((((rows.set r2 (.box [.raw (.slice o1 n1 c1),a,.raw (.slice o2 n2 c2),rd,ov])).set r3 (.pack Q' (subs++[got,out]))).set ra .dead).set rb .dead)) :
  WkE nb L rows G:=by
 refine qrg_ r2 r3 ra rb i h2 h3 ha hb hab hl fun Q' hQ=>?_
 obtain ⟨o1,n1,c1,h1⟩:=q10_ Q' (2*i)
 obtain ⟨o2,n2,c2,h2⟩:=q10_ Q' (2*i+1)
 rw [h1,h2]
 exact hG Q' o1 n1 c1 o2 n2 c2 hQ h1 h2
end Gv
end PartFo10
section PartPrz
namespace Gv
open Go Go.RowKit Gw
variable [Glob]
theorem q6j_ {P:Program} {f:FuncId} {T:qn_} (h:q1_ P f T):q1_ P f (fun args rows k=>T args rows k∨T args rows fun v rows'=>fzT v rows' k):=by
 intro w0 m0 args rows k R m q w us C hv hT
 rcases hT with hT|hT
 ·exact h w0 m0 args rows k R m q w us C hv hT
 ·obtain ⟨h1,h2⟩:=h w0 m0 args rows _ R m q w us C hv hT
  refine ⟨h1,h2.mono fun e w' ⟨u,he,v,rows',R',m',q',hk,C',hm',hq',hvu⟩=>?_⟩
  obtain ⟨r,rows'',R'',m'',g1,C'',hm'',hr⟩:=q8c_ C' hvu hk
  exact ⟨u,he,r,rows'',R'',m'',q',g1,C'',hm'.trans hm'',hq',hr.up (Mem.Le.refl _) (zb_ _)⟩
end Gv
end PartPrz
