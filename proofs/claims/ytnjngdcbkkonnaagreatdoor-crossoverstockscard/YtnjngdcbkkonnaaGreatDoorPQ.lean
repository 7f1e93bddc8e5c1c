/-
  Chapter 4: choices, and the visit of their ladders: a loop over a list of ladders.
-/
import Derived.Test.YtnjngdcbkkonnaaGreatDoorA8
import Derived.Test.YtnjngdcbkkonnaaGreatDoorPB
import Derived.Test.YtnjngdcbkkonnaaGreatDoorPH
set_option linter.unusedVariables false
set_option linter.unusedSimpArgs false
set_option maxRecDepth 100000
set_option maxHeartbeats 1000000
namespace Go.Z
open Go Go.Abs
def inB (n:Nat) (i:Int):Bool:=!(decide (i < 0)) && !(decide ((n:Int)≤i))
def qaf (ps:List qc) (ch:List Int):Int:=if 3 < ch.length then 5 else kg (!ch.all fun i=>inB ps.length i) 10
theorem q33 {i:Int} {o:Option (List qc)}:f177 i o=some (!inB (o.getD []).length i):=by
 unfold f177 inB
 by_cases h:i < 0
 ·rw [decide_eq_true h]; rfl
 ·rw [decide_eq_false h,cond_false]
  simp
theorem q4w {ch:Option (List Int)} {ps:Option (List qc)} (hn:(ch.getD []).length≤9223372036854775807):f176 ch ps=some (!(ch.getD []).all fun i=>inB (ps.getD []).length i):=by
 unfold f176 f208
 obtain ⟨d,g1,g2⟩:=qar (ch.getD []) (qf7 ch ps) (fun i=>inB (ps.getD []).length i) (fun d=>match d with | .inl i=>!decide (0≤i) | .inr _=>true) ⟨.inr _,by unfold qf7; rw [zb]; rfl,rfl⟩ (fun i x hx hi=>by
  unfold qf7
  rw [zt hi,cond_true,j7 hx,qj,q33,qj,jt hi hn]
  cases inB (ps.getD []).length x with
  | true=>exact .inl ⟨rfl,rfl⟩
  | false=>exact .inr ⟨rfl,.inl (i:Int),rfl,by simp⟩)
 rw [g1,qj]
 rw [← g2]
 rcases d with d | d
 ·simp [qh]
 ·simp [qh]
theorem q4c {ch:Option (List Int)} {ps:Option (List qc)} (hn:(ch.getD []).length≤9223372036854775807):f133 ps ch=some (j5 [qbw (ps.getD []),qaf (ps.getD []) (ch.getD [])]):=by
 unfold f133
 rw [q4w hn,qj,qto,qj,qcy,qj,qcy,qj,qnz (by simp),qj]
 congr 1
 unfold qaf
 by_cases h:3 < (ch.getD []).length
 ·rw [if_pos h,decide_eq_true (by omega)]; rfl
 ·rw [if_neg h,decide_eq_false (by omega)]; rfl
theorem q6w {ch:Option (List Int)} {ps:Option (List qc)}:f33 ps ch=some (qaf (ps.getD []) (ch.getD [])):=by
 unfold f33 qaf
 by_cases h:3 < (ch.getD []).length
 ·rw [if_pos h,decide_eq_true (by omega)]; rfl
 ·rw [if_neg h,decide_eq_false (by omega),cond_false]
  obtain ⟨d,g1,g2⟩:=qar (ch.getD []) (qjf ps ch) (fun i=>inB (ps.getD []).length i) (fun d=>match d with | .inl _=>false | .inr _=>true) ⟨.inr _,by unfold qjf; rw [zb]; rfl,rfl⟩ (fun i x hx hi=>by
   unfold qjf inB
   rw [zt hi,cond_true,j7 hx,qj,jt hi (by omega)]
   cases decide (x < 0) with
   | true=>exact .inr ⟨rfl,.inl (),rfl,rfl⟩
   | false=>
    cases decide (((ps.getD []).length:Int)≤x) with
    | true=>exact .inr ⟨rfl,.inl (),rfl,rfl⟩
    | false=>exact .inl ⟨rfl,rfl⟩)
  rw [g1,qj,← g2]
  rcases d with d | d <;> rfl
theorem q6n {o:Option (List Int)} (h:(o.getD []).length≤1073741824):f30 o=some (some (o.getD [])):=by
 unfold f30 apO
 rw [if_pos (by simpa using h)]
 cases o with
 | none=>rfl
 | some l=>cases l <;> rfl
structure qpd (ps:List qc) (ch:List Int) (qs:List qc):Prop where
 len:qs.length=ch.length
 at_:∀ (k:Nat) i,ch[k]?=some i→∃ q,qs[k]?=some q∧zm ps i=some q
 mem:∀ q∈qs,q∈ps
theorem qqp {ps:List qc}:∀ {ch:List Int},(ch.all fun i=>inB ps.length i)=true→∃ qs,qpd ps ch qs
 | [],_=>⟨[],rfl,by simp,by simp⟩
 | i::ch,h=>by
  simp only [List.all_cons,Bool.and_eq_true] at h
  obtain ⟨qs,hq⟩:=qqp h.2
  have hi:=h.1
  unfold inB at hi
  simp only [Bool.and_eq_true,Bool.not_eq_true',decide_eq_false_iff_not] at hi
  have hlt:i.toNat < ps.length:=by omega
  have hx:ps[i.toNat]?=some ps[i.toNat]:=List.getElem?_eq_getElem hlt
  refine ⟨ps[i.toNat]::qs,by simp [hq.len],?_,?_⟩
  ·intro k j hk
   cases k with
   | zero=>
    simp only [List.getElem?_cons_zero,Option.some.injEq] at hk
    subst hk
    refine ⟨_,rfl,?_⟩
    unfold zm
    rw [if_pos (by omega),hx]
   | succ k=>
    simp only [List.getElem?_cons_succ] at hk ⊢
    exact hq.at_ k j hk
  ·intro q hm
   rcases List.mem_cons.1 hm with rfl | hm
   ·exact List.getElem_mem hlt
   ·exact hq.mem q hm
theorem q01 {ps:List qc} {ch:List Int} (h:qaf ps ch=0):ch.length≤3∧∃ qs,qpd ps ch qs:=by
 unfold qaf at h
 split at h
 ·cases h
 ·next h1=>
  refine ⟨by omega,qqp ?_⟩
  cases ha:ch.all fun i=>inB ps.length i with
  | true=>rfl
  | false=>rw [ha] at h; cases h
theorem qpf:∀ {l:List qc} {ks:List (List UInt8)},qk2 ks l=0→∀ p∈l,qao p=0
 | [],_,_,_,h=>by cases h
 | q::l,ks,h,p,hp=>by
  unfold qk2 at h
  split at h
  ·next h1=>
   rcases List.mem_cons.1 hp with rfl | hp
   ·exact qbl.1 h1 _ (List.mem_cons_self ..)
   ·exact qpf h p hp
  ·next h1=>exact absurd h h1
theorem qd9 {l:List qc} (h:qbw l=0):l.length≤6∧∀ p∈l,qao p=0:=by
 unfold qbw at h
 split at h
 ·cases h
 ·exact ⟨by omega,qpf h⟩
end Go.Z
/-
 Chapter 4: the extremes of a choice,in the program: a fold over its ladders.
-/
namespace Go.Z
open Go Go.Abs
def q7e (x y:yt):Bool:=decide (x.num * y.den < y.num * x.den)
def qlo (s:qdb):yt:=⟨s.a,s.b⟩
def qhi (s:qdb):yt:=⟨s.c,s.d⟩
def mkQ (x y:yt):qdb:=⟨x.num,x.den,y.num,y.den⟩
def ji5 (s:Option qdb) (v:yt):qdb:=match s with
 | none=>mkQ v v
 | some s=>mkQ (cond (q7e v (qlo s)) v (qlo s)) (cond (q7e (qhi s) v) v (qhi s))
def ext (w:Int):List (List GEl)→Option qdb→Option (Option qdb)
 | [],s=>some s
 | x::l,s=>if (lev w x).2=0 then ext w l (some (ji5 s (lev w x).1)) else none
end Go.Z
