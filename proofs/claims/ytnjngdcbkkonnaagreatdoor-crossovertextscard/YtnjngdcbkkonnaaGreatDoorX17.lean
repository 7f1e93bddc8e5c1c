/- Chapter 4. -/
import Derived.Test.YtnjngdcbkkonnaaGreatDoorX14
import Derived.Test.YtnjngdcbkkonnaaGreatDoorA28
set_option linter.unusedVariables false
set_option linter.unusedSimpArgs false
set_option maxRecDepth 100000
namespace Go.Z
open Go Go.Abs
def qao:List (List UInt8)→Option (List Int)
 | []=>some []
 | w::ws=>match zp w with
  | some v=>(match qao ws with
   | some l=>some (v::l)
   | none=>none)
  | none=>none
def mkP (a b:List UInt8):Option (List Int)→Option qf
 | some [n0,n1,n2,n3,n4,n5]=>some ⟨a,b,n0,n1,n2,n3,n4,n5⟩
 | _=>none
def kg (w:List (List UInt8)):Option qf:=if w.length=8 then (match w with
 | a::b::ws=>if a=[]∨b=[] then none else mkP a b (qao ws)
 | _=>none) else none
def qay:List (List UInt8)→List qf ⊕ Nat
 | []=>.inl []
 | [l]=>if l=[] then .inl [] else .inr 0
 | l::m::r=>match kg (spl 32 l) with
  | none=>.inr 0
  | some u=>(match qay (m::r) with
   | .inl us=>.inl (u::us)
   | .inr n=>.inr (n + 1))
theorem qxv {l:List UInt8} {r:List (List UInt8)} (hr:r ≠ []):qay (l::r)=match kg (spl 32 l) with
  | none=>.inr 0
  | some u=>(match qay r with
   | .inl us=>.inl (u::us)
   | .inr n=>.inr (n + 1)):=by
 cases r with
 | nil=>exact absurd rfl hr
 | cons m r=>rfl
def app {α:Type} (o:Option (List α)) (l:List α):Option (List α):=match l with
 | []=>o
 | x::t=>some (o.getD []++x::t)
theorem qnf {α:Type} (o:Option (List α)) (x:α) (l:List α):app (some (o.getD []++[x])) l=app o (x::l):=by cases l <;> simp [app]
theorem qvl {α β:Type} {f:Bool} {o:Option (List α)} {x:α} {F:Option (List α)→Option β} (h:f=true∨o=none) (hl:(o.getD []).length + 1≤1073741824):cond f (qg (apO o [x]) F) (cond o.isNone (qg (apO o [x]) F) none)=F (some (o.getD []++[x])):=by
 have e:=qms (x:=x) hl
 rcases h with rfl | rfl
 ·rw [cond_true,e,qj]
 ·cases f <;> rfl
theorem qz9 {α:Type} {w:α} {ws:List α}:qb3 (some (w::ws)) (some 1) none=some (some ws):=by
 unfold qb3 qaz qby
 have:(0:Int)≤1∧(1:Int)≤(((w::ws).length:Nat):Int):=by simp only [List.length_cons]; omega
 simp only [Option.getD_some,this,and_self,if_true,List.take_length]
 rfl
theorem q27 {α:Type} {v w:α} {ws:List α}:qb3 (some (v::w::ws)) (some 2) none=some (some ws):=by
 unfold qb3 qaz qby
 have:(0:Int)≤2∧(2:Int)≤(((v::w::ws).length:Nat):Int):=by simp only [List.length_cons]; omega
 simp only [Option.getD_some,this,and_self,if_true,List.take_length]
 rfl
theorem qtn:∀ {ws:List (List UInt8)} {l:List Int},qao ws=some l→l.length=ws.length
 | [],l,h=>by cases h; rfl
 | w::ws,l,h=>by
  rw [qao] at h
  cases hs:zp w with
  | none=>rw [hs] at h; cases h
  | some v=>
   cases hn:qao ws with
   | none=>rw [hs,hn] at h; cases h
   | some m=>rw [hs,hn] at h; cases h; simp [qtn hn]
theorem qkx:∀ {r:List (List UInt8)} {us:List qf},r ≠ []→qay r=.inl us→us.length + 1=r.length
 | [],us,h,_=>absurd rfl h
 | [l],us,_,h=>by
  rw [qay] at h
  split at h
  ·cases h; rfl
  ·cases h
 | l::m::r,us,_,h=>by
  rw [qay] at h
  cases hu:kg (spl 32 l) with
  | none=>rw [hu] at h; cases h
  | some u=>
   rw [hu] at h
   cases hr:qay (m::r) with
   | inr n=>rw [hr] at h; cases h
   | inl vs=>rw [hr] at h; cases h; have:=qkx (by simp) hr; simp only [List.length_cons] at this ⊢; omega
theorem q8i {α:Type} {l:List α} (h:l.length=8):∃ a b x0 x1 x2 x3 x4 x5,l=[a,b,x0,x1,x2,x3,x4,x5]:=by
 match l,h with
 | [a,b,x0,x1,x2,x3,x4,x5],_=>exact ⟨a,b,x0,x1,x2,x3,x4,x5,rfl⟩
theorem qly (x:List UInt8) (t:List (List UInt8)) (b:Bool):∃ v,nx (some (x::t)) b=some (v,some t,b || !(zp x).isSome)∧∀ n,zp x=some n→v=n:=by
 obtain ⟨v,h1,h2⟩:=q4n x
 refine ⟨v,?_,h2⟩
 unfold nx
 rw [show jy ((some (x::t)).getD []) 0=some x from rfl,qj,h1,qj,qz9,qj]
 cases b <;> rfl
theorem qvu {s:List UInt8} (hs:s.length≤1000000):∃ u,f152 s=some (u,(kg (spl 32 s)).isSome)∧∀ g,kg (spl 32 s)=some g→u=g:=by
 unfold f152
 rw [q4a (by omega),qj,Option.getD_some]
 by_cases h8:(spl 32 s).length=8
 ·obtain ⟨a,b,x0,x1,x2,x3,x4,x5,hw⟩:=q8i h8
  rw [hw,show jy [a,b,x0,x1,x2,x3,x4,x5] 0=some a from rfl,show jy [a,b,x0,x1,x2,x3,x4,x5] 1=some b from rfl]
  rw [show decide ((([a,b,x0,x1,x2,x3,x4,x5].length:Nat):Int)=8)=true from rfl,cond_true,qj]
  by_cases ha:a=[]
  ·subst ha
   exact ⟨qiu,by simp [kg],by simp [kg]⟩
  ·rw [decide_eq_false ha,cond_false,qj]
   by_cases hb:b=[]
   ·subst hb
    exact ⟨qiu,by simp [kg],by simp [kg]⟩
   ·rw [decide_eq_false hb,cond_false,q27,qj]
    obtain ⟨v0,e0,g0⟩:=qly x0 [x1,x2,x3,x4,x5] false
    obtain ⟨v1,e1,g1⟩:=qly x1 [x2,x3,x4,x5] (false || !(zp x0).isSome)
    obtain ⟨v2,e2,g2⟩:=qly x2 [x3,x4,x5] (false || !(zp x0).isSome || !(zp x1).isSome)
    obtain ⟨v3,e3,g3⟩:=qly x3 [x4,x5] (false || !(zp x0).isSome || !(zp x1).isSome || !(zp x2).isSome)
    obtain ⟨v4,e4,g4⟩:=qly x4 [x5] (false || !(zp x0).isSome || !(zp x1).isSome || !(zp x2).isSome || !(zp x3).isSome)
    obtain ⟨v5,e5,g5⟩:=qly x5 [] (false || !(zp x0).isSome || !(zp x1).isSome || !(zp x2).isSome || !(zp x3).isSome || !(zp x4).isSome)
    rw [e0,qj,e1,qj,e2,qj,e3,qj,e4,qj,e5,qj]
    have hp:kg [a,b,x0,x1,x2,x3,x4,x5]=mkP a b (qao [x0,x1,x2,x3,x4,x5]):=by simp [kg,ha,hb]
    rw [hp]
    refine ⟨⟨a,b,v0,v1,v2,v3,v4,v5⟩,?_,?_⟩
    ·congr 2
     cases h0:zp x0 with
     | none=>simp [qao,h0,mkP]
     | some n0=>cases h1:zp x1 with
      | none=>simp [qao,h0,h1,mkP]
      | some n1=>cases h2:zp x2 with
       | none=>simp [qao,h0,h1,h2,mkP]
       | some n2=>cases h3:zp x3 with
        | none=>simp [qao,h0,h1,h2,h3,mkP]
        | some n3=>cases h4:zp x4 with
         | none=>simp [qao,h0,h1,h2,h3,h4,mkP]
         | some n4=>cases h5:zp x5 with
          | none=>simp [qao,h0,h1,h2,h3,h4,h5,mkP]
          | some n5=>simp [qao,h0,h1,h2,h3,h4,h5,mkP]
    ·intro g hg
     cases h0:zp x0 with
     | none=>simp [qao,h0,mkP] at hg
     | some n0=>cases h1:zp x1 with
      | none=>simp [qao,h0,h1,mkP] at hg
      | some n1=>cases h2:zp x2 with
       | none=>simp [qao,h0,h1,h2,mkP] at hg
       | some n2=>cases h3:zp x3 with
        | none=>simp [qao,h0,h1,h2,h3,mkP] at hg
        | some n3=>cases h4:zp x4 with
         | none=>simp [qao,h0,h1,h2,h3,h4,mkP] at hg
         | some n4=>cases h5:zp x5 with
          | none=>simp [qao,h0,h1,h2,h3,h4,h5,mkP] at hg
          | some n5=>
           simp only [qao,h0,h1,h2,h3,h4,h5,mkP,Option.some.injEq] at hg
           rw [g0 _ h0,g1 _ h1,g2 _ h2,g3 _ h3,g4 _ h4,g5 _ h5,hg]
 ·have h8':¬ ((spl 32 s).length:Int)=8:=by omega
  rw [decide_eq_false h8',cond_false]
  exact ⟨qiu,by simp [kg,h8],by simp [kg,h8]⟩
theorem qvq {v2:Option (List (List UInt8))} {s0:(Option (List qf)) × Int × Bool} {W:List (List UInt8)} (hW:W.length=8):∀ (r:List (List UInt8)) (k:Nat) (o:Option (List Int)) (fl:Bool),W.drop k=r→k≤8→(o.getD []).length≤k→(fl=true∨o=none) →
  ∃ d,itO (qeb v2 s0 (some W)) (o,(k:Int),fl)=some d∧match qao r with
   | none=>d=.inl ()
   | some l=>∃ fl' j,d=.inr (app o l,fl',j)
 | [],k,o,fl,hk,h8,hl,hf=>by
  have:¬ (k:Int) < 8:=by have:=List.drop_eq_nil_iff.1 hk; omega
  refine ⟨.inr (o,fl,(k:Int)),zo ?_,⟨fl,(k:Int),rfl⟩⟩
  unfold qeb
  simp only [this,decide_false,cond_false]
 | w::r,k,o,fl,hk,h8,hl,hf=>by
  have hlt:k < W.length:=by
   rcases Nat.lt_or_ge k W.length with h | h
   ·exact h
   ·rw [List.drop_of_length_le h] at hk; cases hk
  have hlt':(k:Int) < 8:=by omega
  rw [qcm hlt] at hk
  obtain ⟨hw,hr⟩:=List.cons.inj hk
  have hix:jy W (k:Int)=some w:=by rw [qaw,List.getElem?_eq_getElem hlt,hw]
  have hwr:qi .i64 ((k:Int) + 1)=((k + 1:Nat):Int):=qba (by omega)
  rw [qao]
  cases hs:zp w with
  | none=>
   refine ⟨.inl (),zo ?_,rfl⟩
   unfold qeb
   simp only [Option.getD_some,hlt',decide_true,cond_true,hix,qj,qwl,hs,cond_false]
  | some v=>
   obtain ⟨d,h1,h2⟩:=qvq (v2:=v2) (s0:=s0) hW r (k + 1) (some (o.getD []++[v])) true hr (by omega) (by simp; omega) (.inl rfl)
   refine ⟨d,?_,?_⟩
   ·rw [qau (s':=(some (o.getD []++[v]),((k + 1:Nat):Int),true)),h1]
    unfold qeb
    simp only [Option.getD_some,hlt',decide_true,cond_true,hix,qj,qwl,hs,hwr]
    exact qvl hf (by omega)
   ·cases hn:qao r with
    | none=>rw [hn] at h2; exact h2
    | some l=>
     rw [hn] at h2
     obtain ⟨fl',j,rfl⟩:=h2
     exact ⟨fl',j,by rw [qnf]⟩
def ja8 (i:Nat) (o:Option (List qf)) (r:List qf ⊕ Nat) (d:Int ⊕ ((Option (List qf)) × Bool × Int)):Prop:=match r with
 | .inl us=>∃ fl' j,d=.inr (app o us,fl',j)
 | .inr n=>d=.inl ((i + n:Nat):Int)
theorem q0j {L:List (List UInt8)} (hL:L.length≤1000001) (hm:∀ w∈L,w.length≤1000000):∀ (r:List (List UInt8)) (i:Nat) (o:Option (List qf)) (fl:Bool),r ≠ []→L.drop i=r→(o.getD []).length≤i→(fl=true∨o=none) →
  ∃ d,itO (qb0 (some L)) (o,(i:Int),fl)=some d∧ja8 i o (qay r) d
 | [],i,o,fl,h0,hi,hl,hf=>absurd rfl h0
 | [l],i,o,fl,h0,hi,hl,hf=>by
  have hlt:i < L.length:=by
   rcases Nat.lt_or_ge i L.length with h | h
   ·exact h
   ·rw [List.drop_of_length_le h] at hi; cases hi
  have hlt':(i:Int) < (L.length:Int):=by omega
  have hlen:L.length=i + 1:=by have:=congrArg List.length hi; rw [List.length_drop] at this; simp only [List.length_singleton] at this; omega
  rw [qcm hlt] at hi
  have hix:jy L (i:Int)=some l:=by rw [qaw,List.getElem?_eq_getElem hlt,(List.cons.inj hi).1]
  have hwr:qi .i64 ((i:Int) + 1)=((i + 1:Nat):Int):=qba (by omega)
  have hlast:(i:Int)=qi .i64 ((L.length:Int) - 1):=by rw [qar (by omega) (by omega)]; omega
  rw [qay]
  by_cases hle:l=[]
  ·rw [if_pos hle]
   refine ⟨.inr (o,fl,((i + 1:Nat):Int)),?_,⟨fl,_,rfl⟩⟩
   rw [qau (s':=(o,((i + 1:Nat):Int),fl))]
   ·refine zo ?_
    unfold qb0
    have:¬ ((i + 1:Nat):Int) < (L.length:Int):=by omega
    simp only [Option.getD_some,this,decide_false,cond_false]
   ·unfold qb0
    simp only [Option.getD_some,hlt',decide_true,cond_true,← hlast,hix,qj,hle,hwr]
  ·rw [if_neg hle]
   refine ⟨.inl (i:Int),zo ?_,rfl⟩
   unfold qb0
   simp only [Option.getD_some,hlt',decide_true,cond_true,← hlast,hix,qj,hle,decide_false,cond_false]
 | l::m::r,i,o,fl,h0,hi,hl,hf=>by
  have hlt:i < L.length:=by
   rcases Nat.lt_or_ge i L.length with h | h
   ·exact h
   ·rw [List.drop_of_length_le h] at hi; cases hi
  have hlt':(i:Int) < (L.length:Int):=by omega
  have hlen:i + 2≤L.length:=by have:=congrArg List.length hi; rw [List.length_drop] at this; simp only [List.length_cons] at this; omega
  rw [qcm hlt] at hi
  have hin:=(List.cons.inj hi).1
  have hix:jy L (i:Int)=some l:=by rw [qaw,List.getElem?_eq_getElem hlt,hin]
  have hwr:qi .i64 ((i:Int) + 1)=((i + 1:Nat):Int):=qba (by omega)
  have hlast:¬ (i:Int)=qi .i64 ((L.length:Int) - 1):=by rw [qar (by omega) (by omega)]; omega
  have hll:l.length≤1000000:=hm l (by rw [← hin]; exact List.getElem_mem _)
  have h96:f96 l 32=some (some (spl 32 l)):=q0g (c:=32) hll
  rw [qay]
  by_cases h8:(spl 32 l).length=8
  ·obtain ⟨a,b,x0,x1,x2,x3,x4,x5,hw⟩:=q8i h8
   rw [hw] at h96 h8
   have h8':decide ((([a,b,x0,x1,x2,x3,x4,x5].length:Nat):Int)=8)=true:=rfl
   have i0:jy [a,b,x0,x1,x2,x3,x4,x5] 0=some a:=rfl
   have i1:jy [a,b,x0,x1,x2,x3,x4,x5] 1=some b:=rfl
   rw [hw]
   by_cases ha:a=[]
   ·subst ha
    rw [show kg [[],b,x0,x1,x2,x3,x4,x5]=none by simp [kg]]
    refine ⟨.inl (i:Int),zo ?_,rfl⟩
    unfold qb0
    simp only [Option.getD_some,hlt',decide_true,cond_true,hlast,decide_false,cond_false,hix,qj,h96,h8',i0]
   by_cases hb:b=[]
   ·subst hb
    rw [show kg [a,[],x0,x1,x2,x3,x4,x5]=none by simp [kg]]
    refine ⟨.inl (i:Int),zo ?_,rfl⟩
    unfold qb0
    simp only [Option.getD_some,hlt',decide_true,cond_true,hlast,decide_false,cond_false,hix,qj,h96,h8',i0,i1,ha]
   have hp:kg [a,b,x0,x1,x2,x3,x4,x5]=mkP a b (qao [x0,x1,x2,x3,x4,x5]):=by simp [kg,ha,hb]
   rw [hp]
   obtain ⟨d,h3,h4⟩:=qvq (v2:=some L) (s0:=(o,(i:Int),fl)) (W:=[a,b,x0,x1,x2,x3,x4,x5]) rfl [x0,x1,x2,x3,x4,x5] 2 none false rfl (by omega) (by simp) (.inr rfl)
   have h3:itO (qeb (some L) (o,(i:Int),fl) (some [a,b,x0,x1,x2,x3,x4,x5])) (none,2,false)=some d:=h3
   cases hn:qao [x0,x1,x2,x3,x4,x5] with
   | none=>
    rw [hn] at h4
    subst h4
    refine ⟨.inl (i:Int),zo ?_,rfl⟩
    unfold qb0
    simp only [Option.getD_some,hlt',decide_true,cond_true,hlast,decide_false,cond_false,hix,qj,h96,h8',i0,i1,ha,hb,h3]
   | some vl=>
    have hvl:=qtn hn
    match vl,hvl with
    | [n0,n1,n2,n3,n4,n5],_=>
    rw [hn] at h4
    obtain ⟨fl',j,rfl⟩:=h4
    have h3:itO (qeb (some L) (o,(i:Int),fl) (some [a,b,x0,x1,x2,x3,x4,x5])) (none,2,false)=some (.inr (some [n0,n1,n2,n3,n4,n5],fl',j)):=h3
    rw [show mkP a b (some [n0,n1,n2,n3,n4,n5])=some ⟨a,b,n0,n1,n2,n3,n4,n5⟩ from rfl]
    obtain ⟨d,h5,h6⟩:=q0j hL hm (m::r) (i + 1) (some (o.getD []++[⟨a,b,n0,n1,n2,n3,n4,n5⟩])) true (by simp) (List.cons.inj hi).2 (by simp; omega) (.inl rfl)
    refine ⟨d,?_,?_⟩
    ·rw [qau (s':=(some (o.getD []++[⟨a,b,n0,n1,n2,n3,n4,n5⟩]),((i + 1:Nat):Int),true)),h5]
     unfold qb0
     simp only [Option.getD_some,hlt',decide_true,cond_true,hlast,decide_false,cond_false,hix,qj,h96,h8',i0,i1,ha,hb,h3,hwr,show jy [n0,n1,n2,n3,n4,n5] 0=some n0 from rfl,show jy [n0,n1,n2,n3,n4,n5] 1=some n1 from rfl,show jy [n0,n1,n2,n3,n4,n5] 2=some n2 from rfl,show jy [n0,n1,n2,n3,n4,n5] 3=some n3 from rfl,show jy [n0,n1,n2,n3,n4,n5] 4=some n4 from rfl,show jy [n0,n1,n2,n3,n4,n5] 5=some n5 from rfl]
     exact qvl hf (by omega)
    ·dsimp only
     cases hr:qay (m::r) with
     | inl us=>
      rw [hr] at h6
      obtain ⟨fl',j,rfl⟩:=h6
      exact ⟨fl',j,by rw [qnf]⟩
     | inr n=>
      rw [hr] at h6
      exact h6.trans (by congr 2; omega)
  ·rw [show kg (spl 32 l)=none by simp [kg,h8]]
   have h8':¬ ((spl 32 l).length:Int)=8:=by omega
   refine ⟨.inl (i:Int),zo ?_,rfl⟩
   unfold qb0
   simp only [Option.getD_some,hlt',decide_true,cond_true,hlast,decide_false,cond_false,hix,qj,h96,h8']
theorem qwt {a:List UInt8} (h:a.length≤1000000):qh1 (a++[10]) [10]=some (a,true):=by
 have hs:Lib.hasSuffix (a++[10]) [10]=true:=by
  unfold Lib.hasSuffix
  rw [List.isSuffixOf_iff_suffix]
  exact List.suffix_append _ _
 unfold qh1
 rw [qi0 (by simp; omega)]
 unfold Lib.trimSuffix
 rw [hs]; simp
theorem qy1 {a:List UInt8} (h:a.length≤1000000) (hn:(10:UInt8) ∉ a):qh1 a [10]=some (a,false):=by
 have hs:Lib.hasSuffix a [10]=false:=by
  cases hc:Lib.hasSuffix a [10] with
  | false=>rfl
  | true=>
   unfold Lib.hasSuffix at hc
   rw [List.isSuffixOf_iff_suffix] at hc
   obtain ⟨t,rfl⟩:=hc
   exact absurd (by simp) hn
 unfold qh1
 rw [qi0 (by omega)]
 unfold Lib.trimSuffix
 rw [hs]; simp
theorem q0b {a:List UInt8} (ha:a.length≤1000000) {o:Option (List qf)} {fl:Bool} {n:Nat} (hf:fl=true∨o=none) (hl:(o.getD []).length + 1≤1073741824) (hn:n≤1000000):
  y93 (o,fl,(n:Int)) (a++[10])=match kg (spl 32 a) with
   | some u=>some (.inl (some (o.getD []++[u]),true,((n + 1:Nat):Int)))
   | none=>some (.inr ()):=by
 obtain ⟨u,h1,h2⟩:=qvu ha
 have hwr:qi .i64 ((n:Int) + 1)=((n + 1:Nat):Int):=qba (by omega)
 unfold y93
 simp only [qwt ha,qj,h1,Bool.true_and]
 cases hu:kg (spl 32 a) with
 | none=>rfl
 | some g=>
  have:=h2 g hu
  subst this
  have hc:(fl || o.isNone)=true:=by
   rcases hf with rfl | rfl
   ·rfl
   ·cases fl <;> rfl
  simp only [Option.isSome_some,cond_true,hc,qms hl,qj,hwr]
theorem q1n {a:List UInt8} (ha:a.length≤1000000) (hn:(10:UInt8) ∉ a) {d:S93}:y93 d a=some (.inr ()):=by
 obtain ⟨u,h1,h2⟩:=qvu ha
 unfold y93
 simp only [qy1 ha hn,qj,h1,Bool.false_and,cond_false]
def ja7 (o:Option (List qf)) (n:Nat) (r:List qf ⊕ Nat) (d:(S93 × List UInt8) ⊕ (S93 × List UInt8)):Prop:=match r with
 | .inl us=>∃ fl' t,d=.inl ((app o us,fl',((n + us.length:Nat):Int)),t)
 | .inr k=>∃ x,d=.inr x∧x.1.2.2=((n + k:Nat):Int)
theorem qwg:∀ (N:Nat) (s:List UInt8),s.length≤N→∀ (o:Option (List qf)) (fl b:Bool) (n:Nat),s.length≤1000000→n + s.length≤1000000→(o.getD []).length≤n→(fl=true∨o=none) →
  ∃ d,itO qlt (((o,fl,(n:Int)),s),b)=some d∧ja7 o n (qay (spl 10 s)) d
 | N,s,hN,o,fl,b,n,hs,hns,hl,hf=>by
  rcases qlq 10 s with h | ⟨a,t,rfl,h⟩
  ·rw [qk0 h,qay]
   by_cases h0:s=[]
   ·subst h0
    rw [if_pos rfl]
    exact ⟨.inl ((o,fl,(n:Int)),[]),zo rfl,⟨fl,[],rfl⟩⟩
   ·rw [if_neg h0]
    have hp:0 < s.length:=List.length_pos_iff.2 h0
    have hp':0 < (s.length:Int):=by omega
    refine ⟨.inr ((o,fl,(n:Int)),[]),zo ?_,⟨_,rfl,rfl⟩⟩
    have h187:qpt s 10=some (-1):=by
     show some (Lib.indexByte s 10)=_
     rw [qve h]
    unfold qlt
    simp only [hp',decide_true,cond_true,h187,qj,q1n hs h]
    rfl
  ·cases N with
   | zero=>simp at hN
   | succ N=>
    simp only [List.length_append,List.length_cons] at hN hs hns
    have hp':0 < (((a++10::t).length:Nat):Int):=by simp only [List.length_append,List.length_cons]; omega
    have h187:qpt (a++10::t) 10=some (a.length:Int):=by
     show some (Lib.indexByte (a++10::t) 10)=_
     rw [qwf h]
    have hwr:qi .i64 ((a.length:Int) + 1)=((a.length + 1:Nat):Int):=qba (by omega)
    have hge:(0:Int)≤(a.length:Int):=by omega
    have hsp:a++10::t=(a++[10])++t:=by simp
    have hlen:(a++[10]).length=a.length + 1:=by simp
    have hle:((a.length + 1:Nat):Int)≤(((a++10::t).length:Nat):Int):=by simp only [List.length_append,List.length_cons]; omega
    have c1:qaz (a++10::t) none (some ((a.length + 1:Nat):Int))=some (a++[10]):=by
     unfold qaz qby
     simp only [Int.natCast_nonneg,hle,and_self,if_true,Int.toNat_natCast,List.drop_zero]
     rw [hsp,← hlen,List.take_left]
    have c2:qaz (a++10::t) (some ((a.length + 1:Nat):Int)) none=some t:=by
     unfold qaz qby
     simp only [Int.natCast_nonneg,hle,and_self,if_true,Int.toNat_natCast,List.take_length]
     rw [hsp,← hlen,List.drop_left]
    rw [qkq h,qxv (qok 10 t)]
    have hy:=q0b (a:=a) (by omega) (o:=o) (fl:=fl) (n:=n) hf (by omega) (by omega)
    cases hu:kg (spl 32 a) with
    | none=>
     rw [hu] at hy
     refine ⟨.inr ((o,fl,(n:Int)),t),zo ?_,⟨_,rfl,rfl⟩⟩
     unfold qlt
     simp only [hp',decide_true,cond_true,h187,qj,hge,hwr,c1,c2,hy]
    | some u=>
     rw [hu] at hy
     obtain ⟨d,h1,h2⟩:=qwg N t (by omega) (some (o.getD []++[u])) true false (n + 1) (by omega) (by omega) (by simp; omega) (.inl rfl)
     refine ⟨d,?_,?_⟩
     ·rw [qau (s':=(((some (o.getD []++[u]),true,((n + 1:Nat):Int)),t),false)),h1]
      unfold qlt
      simp only [hp',decide_true,cond_true,h187,qj,hge,hwr,c1,c2,hy]
     ·dsimp only
      cases hr:qay (spl 10 t) with
      | inl us=>
       rw [hr] at h2
       obtain ⟨fl',x,rfl⟩:=h2
       refine ⟨fl',x,?_⟩
       rw [qnf,List.length_cons,show n + 1 + us.length=n + (us.length + 1) by omega]
      | inr k=>
       rw [hr] at h2
       obtain ⟨x,rfl,hx⟩:=h2
       exact ⟨x,rfl,by rw [hx]; congr 1; omega⟩
def qdm (s:List UInt8):Option (List qf) × Int × Int:=match qay (spl 10 s) with
 | .inr n=>(none,n,26)
 | .inl us=>if qc5 us=0 then (ze us,0,0) else (none,us.length,qc5 us)
theorem qqb {α:Type} (l:List α):app none l=ze l:=by cases l <;> rfl
theorem qz1 {s:List UInt8} (hs:s.length≤1000000):f93 s=some (qdm s):=by
 obtain ⟨d,h1,h2⟩:=qwg s.length s (Nat.le_refl _) none false true 0 hs (by omega) (by simp) (.inr rfl)
 have h1:qmj (none,false,0) s=some d:=h1
 have hlt:¬ 1000000 < (s.length:Int):=by omega
 unfold f93 qdm
 simp only [hlt,decide_false,cond_false,h1,qj]
 cases hr:qay (spl 10 s) with
 | inr n=>
  rw [hr] at h2
  obtain ⟨x,rfl,hx⟩:=h2
  simp only [hx,Nat.zero_add]
 | inl us=>
  rw [hr] at h2
  obtain ⟨fl,t,rfl⟩:=h2
  simp only [qnt,qj,qqb,Nat.zero_add,qae]
  by_cases he:qc5 us=0
  ·simp only [he,decide_true,cond_true,if_true]
  ·simp only [he,decide_false,cond_false,if_false]
theorem q0m {s:List UInt8} (hs:s.length≤1000000):f95 s=some (qdm s):=by
 have hsl:=qvi 10 s
 have hsm:=q49 10 s
 obtain ⟨d,h1,h2⟩:=q0j (L:=spl 10 s) (by omega) (fun w hw=>by have:=(hsm w hw).1; omega) (spl 10 s) 0 none false (qok 10 s) rfl (by simp) (.inr rfl)
 have h1:itO (qb0 (some (spl 10 s))) (none,0,false)=some d:=h1
 have hlt:¬ 1000000 < (s.length:Int):=by omega
 have h96:f96 s 10=some (some (spl 10 s)):=q0g (c:=10) hs
 unfold f95 qdm
 simp only [hlt,decide_false,cond_false,h96,qj,h1]
 cases hr:qay (spl 10 s) with
 | inr n=>
  rw [hr] at h2
  rw [show d=.inl ((0 + n:Nat):Int) from h2]
  simp only [Nat.zero_add]
 | inl us=>
  rw [hr] at h2
  obtain ⟨fl,t,rfl⟩:=h2
  have hul:=qkx (qok 10 s) hr
  have hw:qi .i64 (((spl 10 s).length:Int) - 1)=(us.length:Int):=by rw [qar (by omega) (by omega)]; omega
  simp only [qtx,qj,qqb,Option.getD_some,hw,qae]
  by_cases he:qc5 us=0
  ·simp only [he,decide_true,cond_true,if_true]
  ·simp only [he,decide_false,cond_false,if_false]
theorem qmu:∀ {l:List qf} {ks:List (List UInt8)},qk5 ks l=0→∀ p∈l,qc2 p=0
 | [],_,_,_,h=>by cases h
 | q::l,ks,h,p,hp=>by
  unfold qk5 at h
  split at h
  ·next h1=>
   rcases List.mem_cons.1 hp with rfl | hp
   ·exact qci.1 h1 _ (List.mem_cons_self ..)
   ·exact qmu h p hp
  ·next h1=>exact absurd h h1
theorem qoz {l:List qf} (h:qc5 l=0):l.length≤6∧∀ p∈l,qc2 p=0:=by
 unfold qc5 at h
 split at h
 ·cases h
 ·exact ⟨by omega,qmu h⟩
def qaq (p:qf):List Int:=[p.pa,p.pb,p.sa,p.sb,p.cost,p.stock]
structure qhj (p:qf):Prop where
 ne:p.name ≠ []
 len:p.name.length≤24
 name:qd7 0 p.name=true
 kd:p.kd=kB∨p.kd=kSe∨p.kd=kSh∨p.kd=kT
 val:∀ v∈qaq p,0≤v∧v≤1000000
theorem qw2 {b:Bool} {e:Int} (he:e ≠ 0) (h:kf b e=0):b=false:=by
 cases b with
 | false=>rfl
 | true=>exact absurd h he
theorem qqh {p:qf} (h:qc2 p=0):qhj p:=by
 have ha:qem p=0:=by
  unfold qc2 at h
  split at h
  ·assumption
  ·exact h
 have hok:=qo5 ha
 have hz:=qci.1 ha
 have h1:=qw2 (by decide) (hz _ (List.mem_cons_self ..))
 have h2:=qp6 (hz (yv ⟨p.kd,p.pa,p.pb⟩) (by simp))
 have h5:=qch.1 (hz (zn p.cost 1 1000000) (by simp))
 have h6:=qch.1 (hz (zn p.stock 0 100) (by simp))
 simp only [qin,Bool.not_eq_false',Bool.and_eq_true,decide_eq_true_eq] at h1
 have hk:=h2.1
 simp only [isK,Bool.or_eq_true,decide_eq_true_eq] at hk
 obtain ⟨⟨a1,a2,a3,a4⟩,b1,b2,b3,b4⟩:=hok
 refine ⟨h1.1.1,h1.1.2,h1.2,?_,?_⟩
 ·rcases hk with ((hk | hk) | hk) | hk
  ·exact .inl hk
  ·exact .inr (.inl hk)
  ·exact .inr (.inr (.inl hk))
  ·exact .inr (.inr (.inr hk))
 ·intro v hv
  simp only [qaq,List.mem_cons,List.not_mem_nil,or_false] at hv
  rcases hv with rfl | rfl | rfl | rfl | rfl | rfl <;> omega
theorem qzg {p:qf} (h:qhj p):p.kd.length≤6∧p.kd ≠ []∧∀ c∈p.kd,97≤c.toNat:=by
 rcases h.kd with e | e | e | e <;> rw [e] <;> decide
def qfp (p:qf):List UInt8:=Lib.join (p.name::p.kd::(qaq p).map Lib.itoa) [32]
def qcy (p:qf):List UInt8:=qfp p++[10]
def qcs (l:List qf):List UInt8:=(l.map qcy).flatten
theorem qtt {v:Int} (h:0≤v):Lib.itoa v=Lib.decDigits v.toNat:=by
 unfold Lib.itoa
 rw [if_neg (by omega)]
theorem qr0 {v:Int} (h:0≤v∧v≤1000000):(Lib.itoa v).length≤7:=by
 rw [qtt h.1]
 exact qwj 6 v.toNat (by omega)
theorem qv3 {k:Nat}:∀ {r:List (List UInt8)},(∀ x∈r,x.length≤k)→Lib.lens r≤k * r.length
 | [],_=>by simp [Lib.lens]
 | x::r,h=>by
  have h1:=h x (by simp)
  have h2:=qv3 (k:=k) (r:=r) (fun y hy=>h y (by simp [hy]))
  simp only [Lib.lens,List.map_cons,List.sum_cons,List.length_cons] at h2 ⊢
  rw [Nat.mul_succ]; omega
theorem q2x {l:List Int} (h:∀ v∈l,0≤v∧v≤1000000):(Lib.joinTail [32] (l.map Lib.itoa)).length≤8 * l.length:=by
 rw [Lib.joinTail_length]
 have:=qv3 (k:=7) (r:=l.map Lib.itoa) (fun x hx=>by
  obtain ⟨v,hv,rfl⟩:=List.mem_map.1 hx
  exact qr0 (h v hv))
 rw [List.length_map] at this ⊢
 simp only [List.length_singleton]
 omega
theorem qv7 (p:qf):qfp p=p.name++([32]++p.kd)++Lib.joinTail [32] ((qaq p).map Lib.itoa):=by
 unfold qfp
 rw [Lib.join_cons]
 simp [Lib.joinTail]
theorem qnm {p:qf} (h:qhj p):(qfp p).length≤79:=by
 rw [qv7]
 have h1:=h.len
 have h2:=(qzg h).1
 have h3:=q2x h.val
 have h4:(qaq p).length=6:=rfl
 simp only [List.length_append,List.length_singleton]
 omega
theorem qqs {p:qf} (h:qhj p):(qcy p).length≤80:=by
 have:=qnm h
 unfold qcy
 simp only [List.length_append,List.length_singleton]
 omega
theorem q7l {p:qf} (h:qhj p):∃ fl,f147 (some [p.pa,p.pb,p.sa,p.sb,p.cost,p.stock])=some (some ((qaq p).map Lib.itoa),fl) ∧
  apO (some [p.name,p.kd]) ((qaq p).map Lib.itoa)=some (some (p.name::p.kd::(qaq p).map Lib.itoa)) ∧
  qrv (some (p.name::p.kd::(qaq p).map Lib.itoa)) [32]=some (qfp p)∧kx (qfp p) [10]=some (qcy p):=by
 have h1:f147 (some (qaq p))=_:=qvf (l:=qaq p) (by show 6≤_; omega) (fun x hx=>by have:=h.val x hx; omega)
 have hl:=qnm h
 refine ⟨_,h1,?_,?_,?_⟩
 ·unfold apO
  rw [if_pos (by show 2 + 6≤_; omega)]
  rfl
 ·show qlr _ _=_
  unfold qlr
  rw [qi0 ⟨by simp,by show 8≤_; omega,by unfold qfp at hl; omega⟩]
  rfl
 ·unfold kx
  rw [if_pos (by simp only [List.length_singleton]; omega)]
  rfl
theorem q0y {a0:Option (List qf)} {l:List qf} (ha:a0.getD []=l) (hn:l.length≤6) (hv:∀ u∈l,qhj u):∀ (r:List qf) (i:Nat) (s:List UInt8),l.drop i=r→s.length≤80 * i →
  ∃ j,itO (qdh a0) ((i:Int),s)=some (j,s++qcs r)
 | [],i,s,hr,hs=>by
  have:¬ (i:Int) < (l.length:Int):=by have:=List.drop_eq_nil_iff.1 hr; omega
  refine ⟨(i:Int),zo ?_⟩
  unfold qdh
  simp only [ha,this,decide_false,cond_false]
  simp [qcs]
 | u::r,i,s,hr,hs=>by
  have hlt:i < l.length:=by
   rcases Nat.lt_or_ge i l.length with h | h
   ·exact h
   ·rw [List.drop_of_length_le h] at hr; cases hr
  have hlt':(i:Int) < (l.length:Int):=by omega
  rw [qcm hlt] at hr
  have hiv:=(List.cons.inj hr).1
  have hix:jy l (i:Int)=some u:=by rw [qaw,List.getElem?_eq_getElem hlt,hiv]
  have hwr:qi .i64 ((i:Int) + 1)=((i + 1:Nat):Int):=qba (by omega)
  have hu:=hv u (by rw [← hiv]; exact List.getElem_mem _)
  obtain ⟨fl,g1,g2,g3,g4⟩:=q7l hu
  have hll:=qqs hu
  have h145:qpq s (qcy u)=some (s++qcy u):=by unfold qpq; rw [if_pos (by omega)]
  obtain ⟨j,h1⟩:=q0y ha hn hv r (i + 1) (s++qcy u) (List.cons.inj hr).2 (by simp; omega)
  refine ⟨j,?_⟩
  rw [qau (s':=(((i + 1:Nat):Int),s++qcy u)),h1]
  ·simp [qcs]
  ·unfold qdh
   simp only [ha,hlt',decide_true,cond_true,hix,qj,g1,Option.getD_some,g2,g3,g4,h145,hwr]
theorem q2m {a0:Option (List qf)} {l:List qf} (ha:a0.getD []=l) (hE:qc5 l=0):f92 a0=some (qcs l,0):=by
 have hg:=qoz hE
 obtain ⟨j,h1⟩:=q0y ha hg.1 (fun u hu=>qqh (hg.2 u hu)) l 0 [] rfl (by simp)
 have h1:itO (qdh a0) (0,[])=some (j,[]++qcs l):=h1
 unfold f92
 simp only [qnt,ha,hE,qj,decide_true,cond_true,h1,List.nil_append]
theorem q42 {a0:Option (List qf)} {l:List qf} (ha:a0.getD []=l) (hE:qc5 l ≠ 0):f92 a0=some ([],qc5 l):=by
 unfold f92
 simp only [qnt,ha,qj,hE,decide_false,cond_false]
theorem qvw {a0:Option (List qf)} {s0:List UInt8 × Int} {u:qf} (hu:qhj u):∀ (r:List Int) (k:Nat) (s:List UInt8),(qaq u).drop k=r→k≤6→s.length≤1000000 + 8 * k →
  ∃ j,itO (qg0 a0 s0 u) (s,(k:Int))=some (s++Lib.joinTail [32] (r.map Lib.itoa),j)
 | [],k,s,hr,hk,hs=>by
  have h6:(qaq u).length=6:=rfl
  have:¬ (k:Int) < 6:=by have:=List.drop_eq_nil_iff.1 hr; omega
  refine ⟨(k:Int),zo ?_⟩
  unfold qg0
  simp only [this,decide_false,cond_false]
  simp [Lib.joinTail]
 | v::r,k,s,hr,hk,hs=>by
  have h6:(qaq u).length=6:=rfl
  have hlt:k < (qaq u).length:=by
   rcases Nat.lt_or_ge k (qaq u).length with h | h
   ·exact h
   ·rw [List.drop_of_length_le h] at hr; cases hr
  have hlt':(k:Int) < 6:=by omega
  rw [qcm hlt] at hr
  have hiv:=(List.cons.inj hr).1
  have hix:jy [u.pa,u.pb,u.sa,u.sb,u.cost,u.stock] (k:Int)=some v:=by rw [show [u.pa,u.pb,u.sa,u.sb,u.cost,u.stock]=qaq u from rfl,qaw,List.getElem?_eq_getElem hlt,hiv]
  have hwr:qi .i64 ((k:Int) + 1)=((k + 1:Nat):Int):=qba (by omega)
  have hvv:=hu.val v (by rw [← hiv]; exact List.getElem_mem _)
  have h153:f153 1 v=some (Lib.itoa v):=by
   rw [qtt hvv.1,← q43 (u:=v.toNat) (by omega),Int.toNat_of_nonneg hvv.1]
  have hil:=qr0 hvv
  have c1:kx s [32]=some (s++[32]):=by unfold kx; rw [if_pos (by simp only [List.length_singleton]; omega)]
  have c2:kx (s++[32]) (Lib.itoa v)=some (s++[32]++Lib.itoa v):=by unfold kx; rw [if_pos (by simp only [List.length_append,List.length_singleton]; omega)]
  obtain ⟨j,h1⟩:=qvw (a0:=a0) (s0:=s0) hu r (k + 1) (s++[32]++Lib.itoa v) (List.cons.inj hr).2 (by omega) (by simp only [List.length_append,List.length_singleton]; omega)
  refine ⟨j,?_⟩
  rw [qau (s':=(s++[32]++Lib.itoa v,((k + 1:Nat):Int))),h1]
  ·simp [Lib.joinTail]
  ·unfold qg0
   simp only [hlt',decide_true,cond_true,c1,hix,qj,h153,c2,hwr]
theorem q0q {a0:Option (List qf)} {l:List qf} (ha:a0.getD []=l) (hn:l.length≤6) (hv:∀ u∈l,qhj u):∀ (r:List qf) (i:Nat) (s:List UInt8),l.drop i=r→s.length≤80 * i →
  ∃ j,itO (qg1 a0) (s,(i:Int))=some (s++qcs r,j)
 | [],i,s,hr,hs=>by
  have:¬ (i:Int) < (l.length:Int):=by have:=List.drop_eq_nil_iff.1 hr; omega
  refine ⟨(i:Int),zo ?_⟩
  unfold qg1
  simp only [ha,this,decide_false,cond_false]
  simp [qcs]
 | u::r,i,s,hr,hs=>by
  have hlt:i < l.length:=by
   rcases Nat.lt_or_ge i l.length with h | h
   ·exact h
   ·rw [List.drop_of_length_le h] at hr; cases hr
  have hlt':(i:Int) < (l.length:Int):=by omega
  rw [qcm hlt] at hr
  have hiv:=(List.cons.inj hr).1
  have hix:jy l (i:Int)=some u:=by rw [qaw,List.getElem?_eq_getElem hlt,hiv]
  have hwr:qi .i64 ((i:Int) + 1)=((i + 1:Nat):Int):=qba (by omega)
  have hu:=hv u (by rw [← hiv]; exact List.getElem_mem _)
  have hll:=qqs hu
  have hsl:=hu.len
  have hkl:=(qzg hu).1
  have c1:kx s u.name=some (s++u.name):=by unfold kx; rw [if_pos (by omega)]
  have c2:kx (s++u.name) [32]=some (s++u.name++[32]):=by unfold kx; rw [if_pos (by simp only [List.length_append,List.length_singleton]; omega)]
  have c3:kx (s++u.name++[32]) u.kd=some (s++u.name++[32]++u.kd):=by unfold kx; rw [if_pos (by simp only [List.length_append,List.length_singleton]; omega)]
  obtain ⟨j0,h0⟩:=qvw (a0:=a0) (s0:=(s,(i:Int))) hu (qaq u) 0 (s++u.name++[32]++u.kd) rfl (by omega) (by simp only [List.length_append,List.length_singleton]; omega)
  have h0:itO (qg0 a0 (s,(i:Int)) u) (s++u.name++[32]++u.kd,0)=_:=h0
  have e:s++u.name++[32]++u.kd++Lib.joinTail [32] ((qaq u).map Lib.itoa)=s++qfp u:=by rw [qv7]; simp
  rw [e] at h0
  have c4:kx (s++qfp u) [10]=some (s++qcy u):=by
   have:=qnm hu
   unfold kx
   rw [if_pos (by simp only [List.length_append,List.length_singleton]; omega)]
   unfold qcy
   simp
  obtain ⟨j,h1⟩:=q0q ha hn hv r (i + 1) (s++qcy u) (List.cons.inj hr).2 (by simp; omega)
  refine ⟨j,?_⟩
  rw [qau (s':=(s++qcy u,((i + 1:Nat):Int))),h1]
  ·simp [qcs]
  ·unfold qg1
   simp only [ha,hlt',decide_true,cond_true,hix,qj,c1,c2,c3,h0,c4,hwr]
theorem q1f {a0:Option (List qf)} {l:List qf} (ha:a0.getD []=l) (hE:qc5 l=0):f94 a0=some (qcs l):=by
 have hg:=qoz hE
 obtain ⟨j,h1⟩:=q0q ha hg.1 (fun u hu=>qqh (hg.2 u hu)) l 0 [] rfl (by simp)
 have h1:itO (qg1 a0) ([],0)=some ([]++qcs l,j):=h1
 unfold f94
 simp only [h1,qj,List.nil_append]
theorem qze {a b:Option (List qf)} (hn:(a.getD []).length≤1073741824) (h:a.getD []=b.getD []):f74 a b=some true:=by
 unfold f74
 rw [h,decide_eq_true rfl,cond_true]
 obtain ⟨d,g1,g2⟩:=qgo (a.getD []) (qjv a b) (fun _=>true) (fun d=>match d with | .inl _=>false | .inr _=>true) ⟨.inr _,by unfold qjv; rw [yu]; rfl,rfl⟩ (fun i x hx hi=>by
  left
  unfold qjv
  rw [kr hi,cond_true,yp hx,qj,← h,yp hx,qj,z8 hi (by omega)]
  simp)
 rw [g1,qj]
 rcases d with d | d
 ·simp at g2
 ·rfl
theorem q5i {o:Option (List qf)} (hn:(o.getD []).length≤1073741824):f75 o=some (ze (o.getD []),qah (o.getD [])):=by
 unfold f75
 have:=qmm (o.getD []) (qje o) id (by omega) (fun a=>by unfold qje; dsimp only; rw [yu]; rfl) (fun i x a hx hi hl=>by
  unfold qje
  dsimp only
  rw [kr hi,cond_true,yp hx,qj,z8 hi (by omega)]
  exact qc3 hl)
 rw [this,qj]
 simp
theorem q0h {s:List UInt8} (hs:s.length≤1000000):((qdm s).1.getD []).length≤1000001:=by
 unfold qdm
 cases hr:qay (spl 10 s) with
 | inr n=>simp
 | inl us=>
  have h1:=qkx (qok 10 s) hr
  have h2:=qvi 10 s
  dsimp only
  split
  ·simp only [qae]; omega
  ·simp
theorem qym {l:List qf} (h:qk4 l=true):l.length≤7:=by
 unfold qk4 at h
 simp only [Bool.and_eq_true,Bool.or_eq_true,decide_eq_true_eq] at h
 omega
theorem q05 {a0:Option (List qf)} {a1:List UInt8}:f14 a0 a1=some true:=by
 unfold f14
 rw [show E16=some true from rfl,qj,cond_true,q75,qj]
 cases hs:qk4 (a0.getD []) with
 | false=>rfl
 | true=>
  have hl:=qym hs
  rw [cond_true]
  by_cases h3:300 < (a1.length:Int)
  ·rw [decide_eq_true h3,cond_true]
  ·have h1:a1.length≤1000000:=by omega
   have hp:=q0h h1
   have h75:=q5i (o:=(qdm a1).1) (by omega)
   have h74:f74 (ze ((qdm a1).1.getD [])) (qdm a1).1=some true:=qze (by rw [qae]; omega) (by rw [qae])
   rw [decide_eq_false h3,cond_false,q87 (by omega),qj]
   by_cases hE:qc5 (a0.getD [])=0
   ·rw [q2m (qae _) hE]
    simp only [qj,qz1 h1,qtx,hE,q1f rfl hE,q0m h1,h75,h74,decide_true,cond_true]
   ·rw [q42 (qae _) hE]
    simp only [qj,qz1 h1,qtx,hE,q0m h1,h75,h74,decide_true,cond_true,decide_false,cond_false]
theorem I14 (a0:Option (List qf)) (a1:List UInt8):qd prV (X prV) 14 [sl 8 qn a0,.str a1]=some (.bool true,false):=W14 q05
end Go.Z
