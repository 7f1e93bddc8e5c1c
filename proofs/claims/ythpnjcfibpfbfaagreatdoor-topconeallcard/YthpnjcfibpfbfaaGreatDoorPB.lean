/- Loops as plain functions of their lists. -/
import Derived.Test.YthpnjcfibpfbfaaGreatDoorA1
set_option linter.unusedVariables false
set_option linter.unusedSimpArgs false
set_option maxRecDepth 100000
namespace Go.Z
open Go Go.Abs
theorem qz2 {σ δ γ:Type}(n:Nat)(mk:Nat→σ)(f:σ→Option (σ⊕δ))(V:δ→γ)(r:Nat→γ)(hend:∃d,f (mk n)=some (.inr d)∧V d=r n)
  (hstep:∀i,i<n→(f (mk i)=some (.inl (mk (i+1)))∧r i=r (i+1))∨(∃d,f (mk i)=some (.inr d)∧V d=r i)):∃d,itO f (mk 0)=some d∧V d=r 0:=by
 have key:∀(k i:Nat),i+k=n→∃d,itO f (mk i)=some d∧V d=r i:=by
  intro k
  induction k with
  |zero=>
   intro i hi
   have:i=n:=by omega
   subst this
   obtain⟨d,h1,h2⟩:=hend
   exact⟨d,qek h1,h2⟩
  |succ k ih=>
   intro i hi
   rcases hstep i (by omega)with⟨h1,h2⟩|⟨d,h1,h2⟩
   ·rw[qkd h1,h2];exact ih (i+1) (by omega)
   ·exact⟨d,qek h1,h2⟩
 exact key n 0 (by omega)
theorem qoj {α:Type}{l:List α}{q:α→Int}{i:Nat}{x:α}(hx:l[i]?=some x):zx ((l.drop i).map q)=if q x=0 then zx ((l.drop (i+1)).map q)else q x:=by
 rw[ql7 hx];rfl
theorem qk8 {α δ:Type}(l:List α)(f:Int→Option (Int⊕δ))(q:α→Int)(V:δ→Int)(hend:∃d,f (l.length:Int)=some (.inr d)∧V d=0)
  (hstep:∀(i:Nat) x,l[i]?=some x→i<l.length→(q x=0∧f (i:Int)=some (.inl ((i+1:Nat):Int)))∨(q x≠0∧∃d,f (i:Int)=some (.inr d)∧V d=q x)):∃d,itO f 0=some d∧V d=zx (l.map q):=by
 have:=qz2 l.length (fun i=>(i:Int)) f V (fun i=>zx ((l.drop i).map q)) (by rw[List.drop_eq_nil_of_le (Nat.le_refl _)];exact hend) (fun i hi=>by
  obtain⟨x,hx⟩:∃x,l[i]?=some x:=⟨_,List.getElem?_eq_getElem hi⟩
  simp only[qoj hx]
  rcases hstep i x hx hi with⟨h1,h2⟩|⟨h1,h2⟩
  ·rw[if_pos h1];exact .inl ⟨h2,rfl⟩
  ·rw[if_neg h1];exact .inr h2)
 simpa using this
theorem qll {α:Type}{l:List α}{i:Nat}{x:α}(hx:l[i]?=some x):qgs l (i:Int)=some x:=by rw[qnx,hx]
theorem qnz {α:Type}{l:List α}{i:Nat}(h:i<l.length):decide ((i:Int)<(l.length:Int))=true:=decide_eq_true (by omega)
theorem qk2 {n:Nat}:decide ((n:Int)<(n:Int))=false:=decide_eq_false (by omega)
set_option maxHeartbeats 1000000
theorem qhl {b:Bool}{e:Int}:f55 b e=some (qb0 b e):=by cases b<;>rfl
theorem qlp {b:Bool}{e:Int}:qbh b e=some (qb0 b e):=by cases b<;>rfl
theorem q1l {o:Option (List Int)}(hn:(o.getD []).length≤9223372036854775807):f53 o=some (zx (o.getD [])):=by
 obtain⟨d,h1,h2⟩:=qk8 (o.getD []) (qgl o) id (fun d=>match d with | .inl x=>x | .inr _=>0) ⟨.inr _,by unfold qgl;rw[qk2];rfl,rfl⟩ (fun i x hx hi=>by
  unfold qgl
  rw[qnz hi,cond_true,qll hx,qq]
  by_cases h:x=0
  ·refine .inl ⟨h,?_⟩
   rw[decide_eq_true h,cond_true,qhr hi hn]
  ·refine .inr ⟨h,.inl x,?_,rfl⟩
   rw[decide_eq_false h,cond_false])
 unfold f53
 rw[h1,qq]
 rw[List.map_id]at h2
 rw[←h2]
 cases d<;>rfl
theorem qiu {l:List Int}(hn:l.length≤100):f53 (some l)=some (zx l):=q1l (o:=some l) (by simp only[Option.getD_some];omega)
theorem qx7 {o:Option (List Int)}(hn:(o.getD []).length≤9223372036854775807):qcr o=some (zx (o.getD [])):=by
 obtain⟨d,h1,h2⟩:=qk8 (o.getD []) (qex o) id (fun d=>match d with | .inl x=>x | .inr _=>0) ⟨.inr _,by unfold qex;rw[qk2];rfl,rfl⟩ (fun i x hx hi=>by
  unfold qex
  rw[qnz hi,cond_true,qll hx,qq]
  by_cases h:x=0
  ·refine .inl ⟨h,?_⟩
   rw[decide_eq_true h,cond_true,qhr hi hn]
  ·refine .inr ⟨h,.inl x,?_,rfl⟩
   rw[decide_eq_false h,cond_false])
 unfold qcr
 rw[h1,qq]
 rw[List.map_id]at h2
 rw[←h2]
 cases d<;>rfl
theorem qa1 {l:List Int}(hn:l.length≤100):qcr (some l)=some (zx l):=qx7 (o:=some l) (by simp only[Option.getD_some];omega)
theorem qzp {n lo hi:Int}:f85 n lo hi=some (jh n lo hi):=by
 unfold f85 jh
 by_cases h:n<lo
 ·simp only[h,decide_true,cond_true,qhl,qq,qb0,if_true]
 ·by_cases h2:hi<n<;>simp[h,h2,qhl,qb0]
theorem qqg {n lo hi:Int}:qb6 n lo hi=some (jh n lo hi):=by
 unfold qb6 jh
 by_cases h:n<lo
 ·simp only[h,decide_true,cond_true,qlp,qq,qb0,if_true]
 ·by_cases h2:hi<n<;>simp[h,h2,qlp,qb0]
theorem qq1 {w:Int}:qk3 w=some (jh w 1 8):=by unfold qk3;rw[qqg];rfl
theorem qo8 {w:Int}:f61 w=some (jh w 1 8):=by unfold f61;rw[qzp];rfl
theorem qcw:∀ {l:List Int},zx l=0↔∀x∈l,x=0
 | []=>by simp[zx]
 |x::l=>by
  simp only[zx,List.mem_cons,forall_eq_or_imp]
  by_cases h:x=0
  ·rw[if_pos h,qcw];simp[h]
  ·rw[if_neg h];simp[h]
def kB:List UInt8:=[98,108,111,99,107]
def kSe:List UInt8:=[115,101,114,105,101,115]
def kSh:List UInt8:=[115,104,117,110,116]
def kT:List UInt8:=[116,114,97,112]
def isK (s:List UInt8):Bool:=decide (s=kB)||decide (s=kSe)||decide (s=kSh)||decide (s=kT)
def qbq (s:List UInt8):Bool:=decide (s=kB)||decide (s=kT)
def qcy (x:GEl):Int:=zx [qb0 (!isK x.kind) 13,jh x.a 0 8,jh x.b 0 8,qb0 (qbq x.kind&&decide (x.a=0)&&decide (x.b=0)) 6]
def yp (l:List GEl):Int:=if 5<l.length then 5 else zx (l.map qcy)
theorem qb2 {δ:Type}{F q:Int}{A B:Option (Int⊕δ)}{d:δ}{V:δ→Int}(hF:F=q)(hA:A=B)(hV:V d=F):(q=0∧cond (decide (F=0)) A (some (.inr d))=B)∨(q≠0∧∃d',cond (decide (F=0)) A (some (.inr d))=some (.inr d')∧V d'=q):=by
 subst hF
 by_cases h:F=0
 ·exact .inl ⟨h,by rw[decide_eq_true h];exact hA⟩
 ·exact .inr ⟨h,d,by rw[decide_eq_false h];rfl,hV⟩
theorem qoe {o:Option (List GEl)}:f96 o=some (yp (o.getD [])):=by
 unfold f96 yp
 by_cases h5:(5:Int)<((o.getD []).length:Int)
 ·rw[decide_eq_true h5,if_pos (by omega)];rfl
 ·rw[decide_eq_false h5,if_neg (by omega),cond_false]
  have hn:(o.getD []).length≤9223372036854775807:=by omega
  obtain⟨d,g1,g2⟩:=qk8 (o.getD []) (qgh o) qcy (fun d=>match d with
   | .inl d226=>d226.1
   | .inr (.inl d227)=>d227.1
   | .inr (.inr (.inl d228))=>d228.1
   | .inr (.inr (.inr (.inl d229)))=>d229.1
   | .inr (.inr (.inr (.inr (.inl d230))))=>d230.1
   | .inr (.inr (.inr (.inr (.inr d231))))=>0) ⟨_,by unfold qgh;rw[qk2];rfl,rfl⟩ (fun i x hx hi=>by
    unfold qgh
    rw[qnz hi,cond_true,qll hx,qq,qhr hi hn]
    simp only[qlp,qqg,qq]
    by_cases k1:x.kind=kB
    ·rw[decide_eq_true (show x.kind=[98,108,111,99,107]from k1),cond_true]
     by_cases ha:x.a=0
     ·rw[decide_eq_true ha,cond_true,qa1 (by simp),qq]
      exact qb2 (by simp[qcy,isK,qbq,k1,ha]) rfl rfl
     ·rw[decide_eq_false ha,cond_false,qa1 (by simp),qq]
      exact qb2 (by simp[qcy,isK,qbq,k1,ha]) rfl rfl
    rw[decide_eq_false (show ¬x.kind=[98,108,111,99,107]from k1),cond_false]
    by_cases k2:x.kind=kSe
    ·rw[decide_eq_true (show x.kind=[115,101,114,105,101,115]from k2),cond_true,qa1 (by simp),qq]
     exact qb2 (by simp[qcy,isK,qbq,k2,kSe,kB,kT]) rfl rfl
    rw[decide_eq_false (show ¬x.kind=[115,101,114,105,101,115]from k2),cond_false]
    by_cases k3:x.kind=kSh
    ·rw[decide_eq_true (show x.kind=[115,104,117,110,116]from k3),cond_true,qa1 (by simp),qq]
     exact qb2 (by simp[qcy,isK,qbq,k3,kSh,kSe,kB,kT]) rfl rfl
    rw[decide_eq_false (show ¬x.kind=[115,104,117,110,116]from k3),cond_false]
    by_cases k4:x.kind=kT
    ·rw[decide_eq_true (show x.kind=[116,114,97,112]from k4),cond_true]
     by_cases ha:x.a=0
     ·rw[decide_eq_true ha,cond_true,qa1 (by simp),qq]
      exact qb2 (by simp[qcy,isK,qbq,k4,ha]) rfl rfl
     ·rw[decide_eq_false ha,cond_false,qa1 (by simp),qq]
      exact qb2 (by simp[qcy,isK,qbq,k4,ha]) rfl rfl
    rw[decide_eq_false (show ¬x.kind=[116,114,97,112]from k4),cond_false,qa1 (by simp),qq]
    exact qb2 (by simp[qcy,isK,qbq,k1,k2,k3,k4]) rfl rfl)
  rw[g1,qq,←g2]
  rcases d with d|d|d|d|d|d<;>rfl
end Go.Z
