/- Chapter 4. -/
import Derived.Test.YtnjngdcbkkonnaaGreatDoorX17
import Derived.Test.YtnjngdcbkkonnaaGreatDoorA28
set_option linter.unusedVariables false
set_option linter.unusedSimpArgs false
set_option maxRecDepth 100000
namespace Go.Z
open Go Go.Abs
theorem qpp:∀ {s:List UInt8} {i:Nat},qca i s=true→∀ c∈s,48≤c.toNat
 | x::s,i,h,c,hc=>by
  simp only [qca,Bool.and_eq_true] at h
  rcases List.mem_cons.1 hc with rfl | hc
  ·have h1:=h.1
   simp only [qgt,Bool.or_eq_true,Bool.and_eq_true,decide_eq_true_eq] at h1
   omega
  ·exact qpp h.2 c hc
theorem qp4:∀ {vs:List Int},(∀ v∈vs,0≤v∧v≤1000000)→qag (vs.map Lib.itoa)=some vs
 | [],_=>rfl
 | v::vs,h=>by
  have h1:=h v (by simp)
  have h2:zf (Lib.itoa v)=some v:=by
   rw [qjc h1.1,q3g (by omega),Int.toNat_of_nonneg h1.1]
  rw [List.map_cons,qag,h2,qp4 (fun x hx=>h x (by simp [hx]))]
theorem qve {u:qg} (h:qba u) {c:UInt8} (hc:c.toNat < 48):c ∉ u.name:=fun hm=>by
 have:=qpp h.name c hm
 omega
theorem q2s {u:qg} (h:qba u) {c:UInt8} (hc:c.toNat < 48):c ∉ u.kd:=fun hm=>by
 have:=(qsy h).2.2 c hm
 omega
theorem qu9 {v:Int} (h:0≤v) {c:UInt8} (hc:c.toNat < 48):c ∉ Lib.itoa v:=fun hm=>by
 rw [qjc h] at hm
 have:=qt0 _ _ (Nat.le_refl _) c hm
 omega
theorem q15 {u:qg} (h:qba u):spl 32 (qay u)=u.name::u.kd::(qbx u).map Lib.itoa:=
 qmg 32 _ _ (qve h (by decide)) (fun y hy=>by
  rcases List.mem_cons.1 hy with rfl | hy
  ·exact q2s h (by decide)
  ·obtain ⟨v,hv,rfl⟩:=List.mem_map.1 hy
   exact qu9 (h.val v hv).1 (by decide))
theorem qpl {u:qg} (h:qba u):qal (spl 32 (qay u))=some u:=by
 rw [q15 h]
 have h8:(u.name::u.kd::(qbx u).map Lib.itoa).length=8:=rfl
 unfold qal
 rw [if_pos h8]
 dsimp only
 rw [if_neg,qp4 h.val]
 ·rfl
 ·rintro (e | e)
  ·exact h.ne e
  ·exact (qsy h).2.1 e
theorem qpa {u:qg} (h:qba u):(10:UInt8) ∉ qay u:=by
 intro hm
 rw [qpc] at hm
 rcases List.mem_append.1 hm with hm | hm
 ·rcases List.mem_append.1 hm with hm | hm
  ·exact qve h (by decide) hm
  ·rcases List.mem_append.1 hm with hm | hm
   ·simp at hm
   ·exact q2s h (by decide) hm
 ·unfold Lib.joinTail at hm
  obtain ⟨w,hw,hm⟩:=List.mem_flatten.1 hm
  obtain ⟨x,hx,rfl⟩:=List.mem_map.1 hw
  obtain ⟨v,hv,rfl⟩:=List.mem_map.1 hx
  rcases List.mem_append.1 hm with hm | hm
  ·simp at hm
  ·exact qu9 (h.val v hv).1 (by decide) hm
theorem q4e {u:qg} (h:qba u):qay u ≠ []:=by
 rw [qpc]
 intro e
 exact h.ne (List.append_eq_nil_iff.1 (List.append_eq_nil_iff.1 e).1).1
theorem qd2 (u:qg) (l:List qg):zw (u::l)=qay u++10::zw l:=by
 unfold zw
 rw [List.map_cons,List.flatten_cons,show qe7 u=qay u++[10] from rfl]
 simp
theorem qnm:∀ {l:List qg},(∀ u∈l,qba u)→qa9 (spl 10 (zw l))=.inl l∧(spl 10 (zw l)).length=l.length + 1
 | [],_=>⟨rfl,rfl⟩
 | u::l,h=>by
  have hu:=h u (by simp)
  obtain ⟨h1,h2⟩:=qnm (l:=l) (fun x hx=>h x (by simp [hx]))
  rw [qd2,qgg (qpa hu)]
  refine ⟨?_,by rw [List.length_cons,h2,List.length_cons]⟩
  rw [qji (qj9 10 _),qpl hu,h1]
def qb0:List qg→List UInt8
 | []=>[]
 | [u]=>qay u
 | u::v::l=>qay u++10::qb0 (v::l)
theorem qpv:∀ {l:List qg},l ≠ []→zw l=qb0 l++[10]
 | [],h=>absurd rfl h
 | [u],_=>by rw [qd2]; rfl
 | u::v::l,_=>by
  rw [qd2,qpv (l:=v::l) (by simp),qb0]
  simp
theorem qtr:∀ {l:List qg},l ≠ []→(∀ u∈l,qba u)→qa9 (spl 10 (qb0 l))=.inr (l.length - 1)
 | [],h,_=>absurd rfl h
 | [u],_,h=>by
  have hu:=h u (by simp)
  rw [qb0,qij (qpa hu),qa9,if_neg (q4e hu)]
  rfl
 | u::v::l,_,h=>by
  have hu:=h u (by simp)
  rw [qb0,qgg (qpa hu),qji (qj9 10 _),qpl hu,qtr (l:=v::l) (by simp) (fun x hx=>h x (by simp [hx]))]
  simp
theorem qpy:∀ {ws:List (List UInt8)} {vs:List Int},qag ws=some vs→vs.map Lib.itoa=ws
 | [],vs,h=>by cases h; rfl
 | w::ws,vs,h=>by
  rw [qag] at h
  cases hs:zf w with
  | none=>rw [hs] at h; cases h
  | some v=>
   cases hn:qag ws with
   | none=>rw [hs,hn] at h; cases h
   | some l=>
    rw [hs,hn] at h
    cases h
    have:=q01 hs
    rw [List.map_cons,qjc this.1,this.2,qpy hn]
theorem qx8 {l:List UInt8} {u:qg} (h:qal (spl 32 l)=some u):qay u=l:=by
 have hj:=qro 32 l
 unfold qal at h
 split at h
 ·rename_i h8
  obtain ⟨a,b,x0,x1,x2,x3,x4,x5,hw⟩:=q7l h8
  rw [hw] at h hj
  dsimp only at h
  split at h
  ·cases h
  ·cases hn:qag [x0,x1,x2,x3,x4,x5] with
   | none=>rw [hn] at h; cases h
   | some vl=>
    have hb:=qpy hn
    have hvl:=qrt hn
    match vl,hvl with
    | [n0,n1,n2,n3,n4,n5],_=>
    rw [hn] at h
    cases h
    unfold qay
    rw [show qbx ⟨a,b,n0,n1,n2,n3,n4,n5⟩=[n0,n1,n2,n3,n4,n5] from rfl,hb]
    exact hj
 ·cases h
theorem qm3:∀ {r:List (List UInt8)} {us:List qg},r ≠ []→qa9 r=.inl us→Lib.join r [10]=zw us
 | [],us,h,_=>absurd rfl h
 | [l],us,_,h=>by
  rw [qa9] at h
  split at h
  ·rename_i hl; cases h; rw [hl,Lib.join_one]; rfl
  ·cases h
 | l::m::r,us,_,h=>by
  rw [qa9] at h
  cases hu:qal (spl 32 l) with
  | none=>rw [hu] at h; cases h
  | some u=>
   rw [hu] at h
   cases hr:qa9 (m::r) with
   | inr n=>rw [hr] at h; cases h
   | inl vs=>
    rw [hr] at h
    cases h
    have ih:=qm3 (r:=m::r) (by simp) hr
    rw [Lib.join_cons] at ih ⊢
    rw [qd2,qx8 hu,← ih]
    simp [Lib.joinTail]
theorem q24 {s:List UInt8} (h0:(qcl s).2.2=0):f92 (qcl s).1=some (s,0):=by
 unfold qcl at h0 ⊢
 cases hr:qa9 (spl 10 s) with
 | inr n=>rw [hr] at h0; cases h0
 | inl us=>
  rw [hr] at h0
  dsimp only at h0 ⊢
  by_cases hE:qe0 us=0
  ·rw [if_pos hE,qs8 (qac us) hE,← qm3 (qj9 10 s) hr,qro]
  ·rw [if_neg hE] at h0
   exact absurd h0 hE
theorem q1a {a0:Option (List qg)} {a1:List UInt8}:f15 a0 a1=some true:=by
 unfold f15
 rw [show E16=some true from rfl,ql,cond_true,q7b,ql]
 cases hs:qkl (a0.getD []) with
 | false=>rfl
 | true=>
  have hl7:=qwz hs
  obtain ⟨l,hll⟩:∃ l,a0.getD []=l:=⟨_,rfl⟩
  rw [hll] at hl7
  rw [cond_true,q7a,ql,hll]
  by_cases hE:qe0 l=0
  case neg=>rw [decide_eq_false hE,cond_false]
  rw [decide_eq_true hE,cond_true]
  by_cases hs:300 < (a1.length:Int)
  ·rw [decide_eq_true hs,cond_true]
  rw [decide_eq_false hs,cond_false]
  have hu:=qnc hE
  have hgo:∀ u∈l,qba u:=fun u hm=>qpu (hu.2 u hm)
  have h24:=q6x (o:=a0) (by rw [hll]; omega)
  rw [hll] at h24
  have h92:f92 (j5 l)=some (zw l,0):=qs8 (qac l) hE
  have htl:=qn1 hgo
  obtain ⟨hr1,hr2⟩:=qnm hgo
  have hp:qcl (zw l)=(j5 l,0,0):=by
   unfold qcl
   rw [hr1]
   dsimp only
   rw [if_pos hE]
  have h93:f93 (zw l)=some (j5 l,0,0):=by rw [qr9 (by omega),hp]
  have h75:=q3z (o:=j5 l) (by rw [qac]; omega)
  rw [qac] at h75
  have h74:f74 (j5 l) a0=some true:=qzd (by rw [qac]; omega) (by rw [qac,hll])
  have h96:f96 (zw l) 10=some (some (spl 10 (zw l))):=q5l (c:=10) (by omega)
  have hw:qk .i64 ((l.length:Int) + 1)=((l.length + 1:Nat):Int):=qfz (by omega)
  have hlen:(((some (spl 10 (zw l))).getD []).length:Int)=qk .i64 ((l.length:Int) + 1):=by rw [hw,Option.getD_some,hr2]
  have h93b:f93 a1=some (qcl a1):=qr9 (by omega)
  -- the text without its last byte
  have last:(cond (decide (zw l=[])) (some (decide ((l.length:Int)=0))) (qi (kx (zw l) none (some (qk .i64 (((zw l).length:Int) - 1)))) fun v34=>
    qi (f93 v34) fun v36=>cond (decide (v36.2.2=26)) (some (decide (v36.2.1=(qk .i64 ((l.length:Int) - 1))))) (some false)))=some true:=by
   by_cases hl0:l=[]
   ·subst hl0; rfl
   ·have hpc:=qpv hl0
    have hne:zw l ≠ []:=by rw [hpc]; simp
    have hll0:0 < l.length:=List.length_pos_iff.2 hl0
    have hcl:(zw l).length=(qb0 l).length + 1:=by rw [hpc]; simp
    have hwl:qk .i64 (((zw l).length:Int) - 1)=((qb0 l).length:Int):=by rw [qh2 (by omega) (by omega)]; omega
    have hw1:qk .i64 ((l.length:Int) - 1)=((l.length - 1:Nat):Int):=by rw [qh2 (by omega) (by omega)]; omega
    have hcut:kx (zw l) none (some ((qb0 l).length:Int))=some (qb0 l):=by
     unfold kx qbj
     simp only [Int.natCast_nonneg,show ((qb0 l).length:Int)≤((zw l).length:Int) by omega,and_self,if_true,Int.toNat_natCast,List.drop_zero]
     rw [hpc,List.take_left]
    have h93c:f93 (qb0 l)=some (none,((l.length - 1:Nat):Int),26):=by
     rw [qr9 (by omega)]
     unfold qcl
     rw [qtr hl0 hgo]
    rw [decide_eq_false hne,cond_false,hwl,hcut,ql,h93c,ql,hw1]
    simp only [decide_true,cond_true]
  rw [h24]
  simp only [ql,h92,h93,decide_true,cond_true,h75,h74,h96,hlen,h93b]
  by_cases h0:(qcl a1).2.2=0
  ·rw [decide_eq_true h0,cond_true,q24 h0]
   simp only [ql,decide_true,cond_true]
   exact last
  ·rw [decide_eq_false h0,cond_false]
   exact last
theorem I15 (a0:Option (List qg)) (a1:List UInt8):qd prV (X prV) 15 [sl 8 qq a0,.str a1]=some (.bool true,false):=W15 q1a
end Go.Z
