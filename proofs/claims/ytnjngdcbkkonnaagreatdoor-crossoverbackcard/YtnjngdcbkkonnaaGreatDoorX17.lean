/- Chapter 4. -/
import Derived.Test.YtnjngdcbkkonnaaGreatDoorX14
import Derived.Test.YtnjngdcbkkonnaaGreatDoorA28
set_option linter.unusedVariables false
set_option linter.unusedSimpArgs false
set_option maxRecDepth 100000
namespace Go.Z
open Go Go.Abs
def qag:List (List UInt8)→Option (List Int)
 | []=>some []
 | w::ws=>match zf w with
  | some v=>(match qag ws with
   | some l=>some (v::l)
   | none=>none)
  | none=>none
def mkP (a b:List UInt8):Option (List Int)→Option qg
 | some [n0,n1,n2,n3,n4,n5]=>some ⟨a,b,n0,n1,n2,n3,n4,n5⟩
 | _=>none
def qal (w:List (List UInt8)):Option qg:=if w.length=8 then (match w with
 | a::b::ws=>if a=[]∨b=[] then none else mkP a b (qag ws)
 | _=>none) else none
def qa9:List (List UInt8)→List qg ⊕ Nat
 | []=>.inl []
 | [l]=>if l=[] then .inl [] else .inr 0
 | l::m::r=>match qal (spl 32 l) with
  | none=>.inr 0
  | some u=>(match qa9 (m::r) with
   | .inl us=>.inl (u::us)
   | .inr n=>.inr (n + 1))
theorem qji {l:List UInt8} {r:List (List UInt8)} (hr:r ≠ []):qa9 (l::r)=match qal (spl 32 l) with
  | none=>.inr 0
  | some u=>(match qa9 r with
   | .inl us=>.inl (u::us)
   | .inr n=>.inr (n + 1)):=by
 cases r with
 | nil=>exact absurd rfl hr
 | cons m r=>rfl
def app {α:Type} (o:Option (List α)) (l:List α):Option (List α):=match l with
 | []=>o
 | x::t=>some (o.getD []++x::t)
theorem q0t {α:Type} (o:Option (List α)) (x:α) (l:List α):app (some (o.getD []++[x])) l=app o (x::l):=by cases l <;> simp [app]
theorem qz7 {α:Type} {w:α} {ws:List α}:qby (some (w::ws)) (some 1) none=some (some ws):=by
 unfold qby kx qbj
 have:(0:Int)≤1∧(1:Int)≤(((w::ws).length:Nat):Int):=by simp only [List.length_cons]; omega
 simp only [Option.getD_some,this,and_self,if_true,List.take_length]
 rfl
theorem q0s {α:Type} {v w:α} {ws:List α}:qby (some (v::w::ws)) (some 2) none=some (some ws):=by
 unfold qby kx qbj
 have:(0:Int)≤2∧(2:Int)≤(((v::w::ws).length:Nat):Int):=by simp only [List.length_cons]; omega
 simp only [Option.getD_some,this,and_self,if_true,List.take_length]
 rfl
theorem qrt:∀ {ws:List (List UInt8)} {l:List Int},qag ws=some l→l.length=ws.length
 | [],l,h=>by cases h; rfl
 | w::ws,l,h=>by
  rw [qag] at h
  cases hs:zf w with
  | none=>rw [hs] at h; cases h
  | some v=>
   cases hn:qag ws with
   | none=>rw [hs,hn] at h; cases h
   | some m=>rw [hs,hn] at h; cases h; simp [qrt hn]
theorem q7l {α:Type} {l:List α} (h:l.length=8):∃ a b x0 x1 x2 x3 x4 x5,l=[a,b,x0,x1,x2,x3,x4,x5]:=by
 match l,h with
 | [a,b,x0,x1,x2,x3,x4,x5],_=>exact ⟨a,b,x0,x1,x2,x3,x4,x5,rfl⟩
theorem qlg (x:List UInt8) (t:List (List UInt8)) (b:Bool):∃ v,nx (some (x::t)) b=some (v,some t,b || !(zf x).isSome)∧∀ n,zf x=some n→v=n:=by
 obtain ⟨v,h1,h2⟩:=q26 x
 refine ⟨v,?_,h2⟩
 unfold nx
 rw [show zz ((some (x::t)).getD []) 0=some x from rfl,ql,h1,ql,qz7,ql]
 cases b <;> rfl
theorem qvw {s:List UInt8} (hs:s.length≤1000000):∃ u,f152 s=some (u,(qal (spl 32 s)).isSome)∧∀ g,qal (spl 32 s)=some g→u=g:=by
 unfold f152
 rw [q3t (by omega),ql,Option.getD_some]
 by_cases h8:(spl 32 s).length=8
 ·obtain ⟨a,b,x0,x1,x2,x3,x4,x5,hw⟩:=q7l h8
  rw [hw,show zz [a,b,x0,x1,x2,x3,x4,x5] 0=some a from rfl,show zz [a,b,x0,x1,x2,x3,x4,x5] 1=some b from rfl]
  rw [show decide ((([a,b,x0,x1,x2,x3,x4,x5].length:Nat):Int)=8)=true from rfl,cond_true,ql]
  by_cases ha:a=[]
  ·subst ha
   exact ⟨qh7,by simp [qal],by simp [qal]⟩
  ·rw [decide_eq_false ha,cond_false,ql]
   by_cases hb:b=[]
   ·subst hb
    exact ⟨qh7,by simp [qal],by simp [qal]⟩
   ·rw [decide_eq_false hb,cond_false,q0s,ql]
    obtain ⟨v0,e0,g0⟩:=qlg x0 [x1,x2,x3,x4,x5] false
    obtain ⟨v1,e1,g1⟩:=qlg x1 [x2,x3,x4,x5] (false || !(zf x0).isSome)
    obtain ⟨v2,e2,g2⟩:=qlg x2 [x3,x4,x5] (false || !(zf x0).isSome || !(zf x1).isSome)
    obtain ⟨v3,e3,g3⟩:=qlg x3 [x4,x5] (false || !(zf x0).isSome || !(zf x1).isSome || !(zf x2).isSome)
    obtain ⟨v4,e4,g4⟩:=qlg x4 [x5] (false || !(zf x0).isSome || !(zf x1).isSome || !(zf x2).isSome || !(zf x3).isSome)
    obtain ⟨v5,e5,g5⟩:=qlg x5 [] (false || !(zf x0).isSome || !(zf x1).isSome || !(zf x2).isSome || !(zf x3).isSome || !(zf x4).isSome)
    rw [e0,ql,e1,ql,e2,ql,e3,ql,e4,ql,e5,ql]
    have hp:qal [a,b,x0,x1,x2,x3,x4,x5]=mkP a b (qag [x0,x1,x2,x3,x4,x5]):=by simp [qal,ha,hb]
    rw [hp]
    refine ⟨⟨a,b,v0,v1,v2,v3,v4,v5⟩,?_,?_⟩
    ·congr 2
     cases h0:zf x0 with
     | none=>simp [qag,h0,mkP]
     | some n0=>cases h1:zf x1 with
      | none=>simp [qag,h0,h1,mkP]
      | some n1=>cases h2:zf x2 with
       | none=>simp [qag,h0,h1,h2,mkP]
       | some n2=>cases h3:zf x3 with
        | none=>simp [qag,h0,h1,h2,h3,mkP]
        | some n3=>cases h4:zf x4 with
         | none=>simp [qag,h0,h1,h2,h3,h4,mkP]
         | some n4=>cases h5:zf x5 with
          | none=>simp [qag,h0,h1,h2,h3,h4,h5,mkP]
          | some n5=>simp [qag,h0,h1,h2,h3,h4,h5,mkP]
    ·intro g hg
     cases h0:zf x0 with
     | none=>simp [qag,h0,mkP] at hg
     | some n0=>cases h1:zf x1 with
      | none=>simp [qag,h0,h1,mkP] at hg
      | some n1=>cases h2:zf x2 with
       | none=>simp [qag,h0,h1,h2,mkP] at hg
       | some n2=>cases h3:zf x3 with
        | none=>simp [qag,h0,h1,h2,h3,mkP] at hg
        | some n3=>cases h4:zf x4 with
         | none=>simp [qag,h0,h1,h2,h3,h4,mkP] at hg
         | some n4=>cases h5:zf x5 with
          | none=>simp [qag,h0,h1,h2,h3,h4,h5,mkP] at hg
          | some n5=>
           simp only [qag,h0,h1,h2,h3,h4,h5,mkP,Option.some.injEq] at hg
           rw [g0 _ h0,g1 _ h1,g2 _ h2,g3 _ h3,g4 _ h4,g5 _ h5,hg]
 ·have h8':¬ ((spl 32 s).length:Int)=8:=by omega
  rw [decide_eq_false h8',cond_false]
  exact ⟨qh7,by simp [qal,h8],by simp [qal,h8]⟩
theorem qwr {a:List UInt8} (h:a.length≤1000000):qhg (a++[10]) [10]=some (a,true):=by
 have hs:Lib.hasSuffix (a++[10]) [10]=true:=by
  unfold Lib.hasSuffix
  rw [List.isSuffixOf_iff_suffix]
  exact List.suffix_append _ _
 unfold qhg
 rw [qhy (by simp; omega)]
 unfold Lib.trimSuffix
 rw [hs]; simp
theorem qz8 {a:List UInt8} (h:a.length≤1000000) (hn:(10:UInt8) ∉ a):qhg a [10]=some (a,false):=by
 have hs:Lib.hasSuffix a [10]=false:=by
  cases hc:Lib.hasSuffix a [10] with
  | false=>rfl
  | true=>
   unfold Lib.hasSuffix at hc
   rw [List.isSuffixOf_iff_suffix] at hc
   obtain ⟨t,rfl⟩:=hc
   exact absurd (by simp) hn
 unfold qhg
 rw [qhy (by omega)]
 unfold Lib.trimSuffix
 rw [hs]; simp
theorem qzl {a:List UInt8} (ha:a.length≤1000000) {o:Option (List qg)} {fl:Bool} {n:Nat} (hf:fl=true∨o=none) (hl:(o.getD []).length + 1≤1073741824) (hn:n≤1000000):
  y93 (o,fl,(n:Int)) (a++[10])=match qal (spl 32 a) with
   | some u=>some (.inl (some (o.getD []++[u]),true,((n + 1:Nat):Int)))
   | none=>some (.inr ()):=by
 obtain ⟨u,h1,h2⟩:=qvw ha
 have hwr:qk .i64 ((n:Int) + 1)=((n + 1:Nat):Int):=qfz (by omega)
 unfold y93
 simp only [qwr ha,ql,h1,Bool.true_and]
 cases hu:qal (spl 32 a) with
 | none=>rfl
 | some g=>
  have:=h2 g hu
  subst this
  have hc:(fl || o.isNone)=true:=by
   rcases hf with rfl | rfl
   ·rfl
   ·cases fl <;> rfl
  simp only [Option.isSome_some,cond_true,hc,qpi hl,ql,hwr]
theorem q1f {a:List UInt8} (ha:a.length≤1000000) (hn:(10:UInt8) ∉ a) {d:S93}:y93 d a=some (.inr ()):=by
 obtain ⟨u,h1,h2⟩:=qvw ha
 unfold y93
 simp only [qz8 ha hn,ql,h1,Bool.false_and,cond_false]
def jca (o:Option (List qg)) (n:Nat) (r:List qg ⊕ Nat) (d:(S93 × List UInt8) ⊕ (S93 × List UInt8)):Prop:=match r with
 | .inl us=>∃ fl' t,d=.inl ((app o us,fl',((n + us.length:Nat):Int)),t)
 | .inr k=>∃ x,d=.inr x∧x.1.2.2=((n + k:Nat):Int)
theorem qu1:∀ (N:Nat) (s:List UInt8),s.length≤N→∀ (o:Option (List qg)) (fl b:Bool) (n:Nat),s.length≤1000000→n + s.length≤1000000→(o.getD []).length≤n→(fl=true∨o=none) →
  ∃ d,itO qj8 (((o,fl,(n:Int)),s),b)=some d∧jca o n (qa9 (spl 10 s)) d
 | N,s,hN,o,fl,b,n,hs,hns,hl,hf=>by
  rcases qky 10 s with h | ⟨a,t,rfl,h⟩
  ·rw [qij h,qa9]
   by_cases h0:s=[]
   ·subst h0
    rw [if_pos rfl]
    exact ⟨.inl ((o,fl,(n:Int)),[]),qat rfl,⟨fl,[],rfl⟩⟩
   ·rw [if_neg h0]
    have hp:0 < s.length:=List.length_pos_iff.2 h0
    have hp':0 < (s.length:Int):=by omega
    refine ⟨.inr ((o,fl,(n:Int)),[]),qat ?_,⟨_,rfl,rfl⟩⟩
    have h187:qo1 s 10=some (-1):=by
     show some (Lib.indexByte s 10)=_
     rw [qvi h]
    unfold qj8
    simp only [hp',decide_true,cond_true,h187,ql,q1f hs h]
    rfl
  ·cases N with
   | zero=>simp at hN
   | succ N=>
    simp only [List.length_append,List.length_cons] at hN hs hns
    have hp':0 < (((a++10::t).length:Nat):Int):=by simp only [List.length_append,List.length_cons]; omega
    have h187:qo1 (a++10::t) 10=some (a.length:Int):=by
     show some (Lib.indexByte (a++10::t) 10)=_
     rw [qu5 h]
    have hwr:qk .i64 ((a.length:Int) + 1)=((a.length + 1:Nat):Int):=qfz (by omega)
    have hge:(0:Int)≤(a.length:Int):=by omega
    have hsp:a++10::t=(a++[10])++t:=by simp
    have hlen:(a++[10]).length=a.length + 1:=by simp
    have hle:((a.length + 1:Nat):Int)≤(((a++10::t).length:Nat):Int):=by simp only [List.length_append,List.length_cons]; omega
    have c1:kx (a++10::t) none (some ((a.length + 1:Nat):Int))=some (a++[10]):=by
     unfold kx qbj
     simp only [Int.natCast_nonneg,hle,and_self,if_true,Int.toNat_natCast,List.drop_zero]
     rw [hsp,← hlen,List.take_left]
    have c2:kx (a++10::t) (some ((a.length + 1:Nat):Int)) none=some t:=by
     unfold kx qbj
     simp only [Int.natCast_nonneg,hle,and_self,if_true,Int.toNat_natCast,List.take_length]
     rw [hsp,← hlen,List.drop_left]
    rw [qgg h,qji (qj9 10 t)]
    have hy:=qzl (a:=a) (by omega) (o:=o) (fl:=fl) (n:=n) hf (by omega) (by omega)
    cases hu:qal (spl 32 a) with
    | none=>
     rw [hu] at hy
     refine ⟨.inr ((o,fl,(n:Int)),t),qat ?_,⟨_,rfl,rfl⟩⟩
     unfold qj8
     simp only [hp',decide_true,cond_true,h187,ql,hge,hwr,c1,c2,hy]
    | some u=>
     rw [hu] at hy
     obtain ⟨d,h1,h2⟩:=qu1 N t (by omega) (some (o.getD []++[u])) true false (n + 1) (by omega) (by omega) (by simp; omega) (.inl rfl)
     refine ⟨d,?_,?_⟩
     ·rw [qed (s':=(((some (o.getD []++[u]),true,((n + 1:Nat):Int)),t),false)),h1]
      unfold qj8
      simp only [hp',decide_true,cond_true,h187,ql,hge,hwr,c1,c2,hy]
     ·dsimp only
      cases hr:qa9 (spl 10 t) with
      | inl us=>
       rw [hr] at h2
       obtain ⟨fl',x,rfl⟩:=h2
       refine ⟨fl',x,?_⟩
       rw [q0t,List.length_cons,show n + 1 + us.length=n + (us.length + 1) by omega]
      | inr k=>
       rw [hr] at h2
       obtain ⟨x,rfl,hx⟩:=h2
       exact ⟨x,rfl,by rw [hx]; congr 1; omega⟩
def qcl (s:List UInt8):Option (List qg) × Int × Int:=match qa9 (spl 10 s) with
 | .inr n=>(none,n,26)
 | .inl us=>if qe0 us=0 then (j5 us,0,0) else (none,us.length,qe0 us)
theorem qy6 {α:Type} (l:List α):app none l=j5 l:=by cases l <;> rfl
theorem qr9 {s:List UInt8} (hs:s.length≤1000000):f93 s=some (qcl s):=by
 obtain ⟨d,h1,h2⟩:=qu1 s.length s (Nat.le_refl _) none false true 0 hs (by omega) (by simp) (.inr rfl)
 have h1:qle (none,false,0) s=some d:=h1
 have hlt:¬ 1000000 < (s.length:Int):=by omega
 unfold f93 qcl
 simp only [hlt,decide_false,cond_false,h1,ql]
 cases hr:qa9 (spl 10 s) with
 | inr n=>
  rw [hr] at h2
  obtain ⟨x,rfl,hx⟩:=h2
  simp only [hx,Nat.zero_add]
 | inl us=>
  rw [hr] at h2
  obtain ⟨fl,t,rfl⟩:=h2
  simp only [qs6,ql,qy6,Nat.zero_add,qac]
  by_cases he:qe0 us=0
  ·simp only [he,decide_true,cond_true,if_true]
  ·simp only [he,decide_false,cond_false,if_false]
theorem qmd:∀ {l:List qg} {ks:List (List UInt8)},qkp ks l=0→∀ p∈l,qcv p=0
 | [],_,_,_,h=>by cases h
 | q::l,ks,h,p,hp=>by
  unfold qkp at h
  split at h
  ·next h1=>
   rcases List.mem_cons.1 hp with rfl | hp
   ·exact qcg.1 h1 _ (List.mem_cons_self ..)
   ·exact qmd h p hp
  ·next h1=>exact absurd h h1
theorem qnc {l:List qg} (h:qe0 l=0):l.length≤6∧∀ p∈l,qcv p=0:=by
 unfold qe0 at h
 split at h
 ·cases h
 ·exact ⟨by omega,qmd h⟩
def qbx (p:qg):List Int:=[p.pa,p.pb,p.sa,p.sb,p.cost,p.stock]
structure qba (p:qg):Prop where
 ne:p.name ≠ []
 len:p.name.length≤24
 name:qca 0 p.name=true
 kd:p.kd=kB∨p.kd=kSe∨p.kd=kSh∨p.kd=kT
 val:∀ v∈qbx p,0≤v∧v≤1000000
theorem qxh {b:Bool} {e:Int} (he:e ≠ 0) (h:ke b e=0):b=false:=by
 cases b with
 | false=>rfl
 | true=>exact absurd h he
theorem qpu {p:qg} (h:qcv p=0):qba p:=by
 have ha:qd5 p=0:=by
  unfold qcv at h
  split at h
  ·assumption
  ·exact h
 have hok:=qo8 ha
 have hz:=qcg.1 ha
 have h1:=qxh (by decide) (hz _ (List.mem_cons_self ..))
 have h2:=qpz (hz (yt ⟨p.kd,p.pa,p.pb⟩) (by simp))
 have h5:=qcd.1 (hz (zk p.cost 1 1000000) (by simp))
 have h6:=qcd.1 (hz (zk p.stock 0 100) (by simp))
 simp only [qip,Bool.not_eq_false',Bool.and_eq_true,decide_eq_true_eq] at h1
 have hk:=h2.1
 simp only [isK,Bool.or_eq_true,decide_eq_true_eq] at hk
 obtain ⟨⟨a1,a2,a3,a4⟩,b1,b2,b3,b4⟩:=hok
 refine ⟨h1.1.1,h1.1.2,h1.2,?_,?_⟩
 ·rcases hk with ((hk | hk) | hk) | hk
  ·exact .inl hk
  ·exact .inr (.inl hk)
  ·exact .inr (.inr (.inl hk))
  ·exact .inr (.inr (.inr hk))
 ·intro v hv
  simp only [qbx,List.mem_cons,List.not_mem_nil,or_false] at hv
  rcases hv with rfl | rfl | rfl | rfl | rfl | rfl <;> omega
theorem qsy {p:qg} (h:qba p):p.kd.length≤6∧p.kd ≠ []∧∀ c∈p.kd,97≤c.toNat:=by
 rcases h.kd with e | e | e | e <;> rw [e] <;> decide
def qay (p:qg):List UInt8:=Lib.join (p.name::p.kd::(qbx p).map Lib.itoa) [32]
def qe7 (p:qg):List UInt8:=qay p++[10]
def zw (l:List qg):List UInt8:=(l.map qe7).flatten
theorem qjc {v:Int} (h:0≤v):Lib.itoa v=Lib.decDigits v.toNat:=by
 unfold Lib.itoa
 rw [if_neg (by omega)]
theorem q16 {v:Int} (h:0≤v∧v≤1000000):(Lib.itoa v).length≤7:=by
 rw [qjc h.1]
 exact qoy 6 v.toNat (by omega)
theorem qvz {k:Nat}:∀ {r:List (List UInt8)},(∀ x∈r,x.length≤k)→Lib.lens r≤k * r.length
 | [],_=>by simp [Lib.lens]
 | x::r,h=>by
  have h1:=h x (by simp)
  have h2:=qvz (k:=k) (r:=r) (fun y hy=>h y (by simp [hy]))
  simp only [Lib.lens,List.map_cons,List.sum_cons,List.length_cons] at h2 ⊢
  rw [Nat.mul_succ]; omega
theorem q1g {l:List Int} (h:∀ v∈l,0≤v∧v≤1000000):(Lib.joinTail [32] (l.map Lib.itoa)).length≤8 * l.length:=by
 rw [Lib.joinTail_length]
 have:=qvz (k:=7) (r:=l.map Lib.itoa) (fun x hx=>by
  obtain ⟨v,hv,rfl⟩:=List.mem_map.1 hx
  exact q16 (h v hv))
 rw [List.length_map] at this ⊢
 simp only [List.length_singleton]
 omega
theorem qpc (p:qg):qay p=p.name++([32]++p.kd)++Lib.joinTail [32] ((qbx p).map Lib.itoa):=by
 unfold qay
 rw [Lib.join_cons]
 simp [Lib.joinTail]
theorem qtn {p:qg} (h:qba p):(qay p).length≤79:=by
 rw [qpc]
 have h1:=h.len
 have h2:=(qsy h).1
 have h3:=q1g h.val
 have h4:(qbx p).length=6:=rfl
 simp only [List.length_append,List.length_singleton]
 omega
theorem qpm {p:qg} (h:qba p):(qe7 p).length≤80:=by
 have:=qtn h
 unfold qe7
 simp only [List.length_append,List.length_singleton]
 omega
theorem qn1:∀ {l:List qg},(∀ u∈l,qba u)→(zw l).length≤80 * l.length
 | [],_=>by simp [zw]
 | u::l,h=>by
  have h1:=qpm (h u (by simp))
  have h2:=qn1 (l:=l) (fun x hx=>h x (by simp [hx]))
  unfold zw at h2 ⊢
  simp only [List.map_cons,List.flatten_cons,List.length_append,List.length_cons]
  omega
theorem q56 {p:qg} (h:qba p):∃ fl,f147 (some [p.pa,p.pb,p.sa,p.sb,p.cost,p.stock])=some (some ((qbx p).map Lib.itoa),fl) ∧
  apO (some [p.name,p.kd]) ((qbx p).map Lib.itoa)=some (some (p.name::p.kd::(qbx p).map Lib.itoa)) ∧
  qq6 (some (p.name::p.kd::(qbx p).map Lib.itoa)) [32]=some (qay p)∧qtm (qay p) [10]=some (qe7 p):=by
 have h1:f147 (some (qbx p))=_:=qvg (l:=qbx p) (by show 6≤_; omega) (fun x hx=>by have:=h.val x hx; omega)
 have hl:=qtn h
 refine ⟨_,h1,?_,?_,?_⟩
 ·unfold apO
  rw [if_pos (by show 2 + 6≤_; omega)]
  rfl
 ·show qkk _ _=_
  unfold qkk
  rw [qhy ⟨by simp,by show 8≤_; omega,by unfold qay at hl; omega⟩]
  rfl
 ·unfold qtm
  rw [if_pos (by simp only [List.length_singleton]; omega)]
  rfl
theorem qys {a0:Option (List qg)} {l:List qg} (ha:a0.getD []=l) (hn:l.length≤6) (hv:∀ u∈l,qba u):∀ (r:List qg) (i:Nat) (s:List UInt8),l.drop i=r→s.length≤80 * i →
  ∃ j,itO (qdb a0) ((i:Int),s)=some (j,s++zw r)
 | [],i,s,hr,hs=>by
  have:¬ (i:Int) < (l.length:Int):=by have:=List.drop_eq_nil_iff.1 hr; omega
  refine ⟨(i:Int),qat ?_⟩
  unfold qdb
  simp only [ha,this,decide_false,cond_false]
  simp [zw]
 | u::r,i,s,hr,hs=>by
  have hlt:i < l.length:=by
   rcases Nat.lt_or_ge i l.length with h | h
   ·exact h
   ·rw [List.drop_of_length_le h] at hr; cases hr
  have hlt':(i:Int) < (l.length:Int):=by omega
  rw [qo3 hlt] at hr
  have hiv:=(List.cons.inj hr).1
  have hix:zz l (i:Int)=some u:=by rw [qja,List.getElem?_eq_getElem hlt,hiv]
  have hwr:qk .i64 ((i:Int) + 1)=((i + 1:Nat):Int):=qfz (by omega)
  have hu:=hv u (by rw [← hiv]; exact List.getElem_mem _)
  obtain ⟨fl,g1,g2,g3,g4⟩:=q56 hu
  have hll:=qpm hu
  have h145:qof s (qe7 u)=some (s++qe7 u):=by unfold qof; rw [if_pos (by omega)]
  obtain ⟨j,h1⟩:=qys ha hn hv r (i + 1) (s++qe7 u) (List.cons.inj hr).2 (by simp; omega)
  refine ⟨j,?_⟩
  rw [qed (s':=(((i + 1:Nat):Int),s++qe7 u)),h1]
  ·simp [zw]
  ·unfold qdb
   simp only [ha,hlt',decide_true,cond_true,hix,ql,g1,Option.getD_some,g2,g3,g4,h145,hwr]
theorem qs8 {a0:Option (List qg)} {l:List qg} (ha:a0.getD []=l) (hE:qe0 l=0):f92 a0=some (zw l,0):=by
 have hg:=qnc hE
 obtain ⟨j,h1⟩:=qys ha hg.1 (fun u hu=>qpu (hg.2 u hu)) l 0 [] rfl (by simp)
 have h1:itO (qdb a0) (0,[])=some (j,[]++zw l):=h1
 unfold f92
 simp only [qs6,ha,hE,ql,decide_true,cond_true,h1,List.nil_append]
theorem qzd {a b:Option (List qg)} (hn:(a.getD []).length≤1073741824) (h:a.getD []=b.getD []):f74 a b=some true:=by
 unfold f74
 rw [h,decide_eq_true rfl,cond_true]
 obtain ⟨d,g1,g2⟩:=qfu (a.getD []) (qis a b) (fun _=>true) (fun d=>match d with | .inl _=>false | .inr _=>true) ⟨.inr _,by unfold qis; rw [yu]; rfl,rfl⟩ (fun i x hx hi=>by
  left
  unfold qis
  rw [ko hi,cond_true,yn hx,ql,← h,yn hx,ql,zx hi (by omega)]
  simp)
 rw [g1,ql]
 rcases d with d | d
 ·simp at g2
 ·rfl
theorem q3z {o:Option (List qg)} (hn:(o.getD []).length≤1073741824):f75 o=some (j5 (o.getD []),qaf (o.getD [])):=by
 unfold f75
 have:=qlm (o.getD []) (qjj o) id (by omega) (fun a=>by unfold qjj; dsimp only; rw [yu]; rfl) (fun i x a hx hi hl=>by
  unfold qjj
  dsimp only
  rw [ko hi,cond_true,yn hx,ql,zx hi (by omega)]
  exact qcw hl)
 rw [this,ql]
 simp
theorem qwz {l:List qg} (h:qkl l=true):l.length≤7:=by
 unfold qkl at h
 simp only [Bool.and_eq_true,Bool.or_eq_true,decide_eq_true_eq] at h
 omega
end Go.Z
