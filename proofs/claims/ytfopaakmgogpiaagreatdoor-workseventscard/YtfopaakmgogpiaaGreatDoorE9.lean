/- Chapter 10, plain. -/
import Derived.Test.YtfopaakmgogpiaaGreatDoorE6
set_option linter.unusedVariables false
set_option linter.unusedSimpArgs false
set_option maxRecDepth 100000
set_option maxHeartbeats 4000000
namespace Go.Z
open Go Go.Abs Go.W
variable {r:GReg} {e:GEv}
def qle (r:SReg) (c:Int) (n:List UInt8):Bool:=if c=108 then (zz r n).isSome else if c=112 then (z6 r n).isSome else if c=117 then (zq r n).isSome else true
theorem qxg (b:GB r) {c:Int} {n:List UInt8}:f202 r c n=some (qle r.er c n):=by
 unfold f202 qle
 by_cases h1:c=108
 ·simp only [h1,decide_true,cond_true,if_true,qm4 (jo b.L),qa,qch]
 ·by_cases h2:c=112
  ·simp only [h1,h2,decide_true,decide_false,cond_true,cond_false,if_true,if_false,qdy (jo b.P),qa,qch]; rfl
  ·by_cases h3:c=117
   ·simp only [h1,h2,h3,decide_true,decide_false,cond_true,cond_false,if_true,if_false,qhn (jo b.U),qa,qch]; rfl
   ·simp only [h1,h2,h3,decide_false,cond_false,if_false]
def yw (r:SReg) (c:UInt8) (n:List UInt8):Bool:=decide ((c.toNat:Int)=45) || qle r (c.toNat:Int) n
theorem qj1 (b:GB r) {a:UInt8} {n0:List UInt8} {t:List (List UInt8)} (hr:j8 e.kind=[a]) (hd:qo [a] 0=(a.toNat,1)) (hn:e.names.getD []=n0::t):
  ∃ d,itO (qmc r e) none=some (if yw r.er a n0 then .inr d else .inl d):=by
 have z:qg4 r e=some (if yw r.er a n0 then .inl (some 1) else .inr (.inl 1)):=by
  unfold qg4 yw
  simp only [hr,hd,qa,qbe hn,qxg b]
  simp only [List.length_singleton,Nat.lt_irrefl,show decide (0 < 1)=true from rfl,cond_true]
  cases decide ((a.toNat:Int)=45) <;> cases qle r.er (a.toNat:Int) n0 <;> rfl
 cases hk:yw r.er a n0 with
 | true=>
  rw [hk] at z
  refine ⟨1,?_⟩
  rw [qc7 (s':=some 1) z]
  refine ki (d:=(Sum.inr 1:Nat ⊕ Nat)) ?_
  show qet r e 1=_
  unfold qet
  simp only [hr,List.length_singleton]
  rfl
 | false=>
  rw [hk] at z
  exact ⟨1,ki z⟩
theorem qjg (b:GB r) {a c:UInt8} {n0 n1:List UInt8} {t:List (List UInt8)} (hr:j8 e.kind=[a,c]) (hd:qo [a,c] 0=(a.toNat,1)) (hd1:qo [a,c] 1=(c.toNat,1)) (hn:e.names.getD []=n0::n1::t):
  ∃ d,itO (qmc r e) none=some (if yw r.er a n0 && yw r.er c n1 then .inr d else .inl d):=by
 have z:qg4 r e=some (if yw r.er a n0 then .inl (some 1) else .inr (.inl 1)):=by
  unfold qg4 yw
  simp only [hr,hd,qa,qbe hn,qxg b]
  simp only [List.length_cons,List.length_nil,show decide (0 < 0 + 1 + 1)=true from rfl,cond_true]
  cases decide ((a.toNat:Int)=45) <;> cases qle r.er (a.toNat:Int) n0 <;> rfl
 have y:qet r e 1=some (if yw r.er c n1 then .inl (some 2) else .inr (.inl 2)):=by
  unfold qet yw
  simp only [hr,hd1,qa,show ((1:Nat):Int)=1 from rfl,qa7 hn,qxg b]
  simp only [List.length_cons,List.length_nil,show decide (1 < 0 + 1 + 1)=true from rfl,cond_true]
  cases decide ((c.toNat:Int)=45) <;> cases qle r.er (c.toNat:Int) n1 <;> rfl
 cases hk:yw r.er a n0 with
 | false=>
  rw [hk] at z
  exact ⟨1,ki z⟩
 | true=>
  rw [hk] at z
  cases hk2:yw r.er c n1 with
  | false=>
   rw [hk2] at y
   refine ⟨2,?_⟩
   rw [qc7 (s':=some 1) z]
   exact ki (d:=(Sum.inl 2:Nat ⊕ Nat)) y
  | true=>
   rw [hk2] at y
   refine ⟨2,?_⟩
   rw [qc7 (s':=some 1) z,qc7 (s':=some 2) y]
   refine ki (d:=(Sum.inr 2:Nat ⊕ Nat)) ?_
   show qet r e 2=_
   unfold qet
   simp only [hr,List.length_cons,List.length_nil]
   rfl
def qa3 (x:Option (GReg × Int)) (y:Res):Prop:=∃ r' c,x=some (r',c)∧match y with
 | .error k=>c=k∧k ≠ 0
 | .ok s=>c=0∧r'.er=s
theorem qbi {v0:Int} {t:List Int} {K:Bool} (hv:e.values.getD []=v0::t) (hl:∃ d,itO (qmc r e) none=some (if K then .inr d else .inl d)) (hK:K=false→jh (qe .i64) r.er e.er=.error 10) (hA:K=true→qfk (k9 (qv4 e.kind) r e) (jh (qe .i64) r.er e.er)):
  qa3 (f121 r e) (after (qe .i64) r.er e.er):=by
 unfold f121 after
 rw [qbe hv,vl0 hv]
 simp only [qa]
 by_cases h:v0 < r.day
 ·rw [decide_eq_true h,if_pos (show v0 < r.er.day from h)]
  exact ⟨_,_,rfl,rfl,by decide⟩
 ·rw [decide_eq_false h,if_neg (show ¬ v0 < r.er.day from h)]
  obtain ⟨d,hd⟩:=hl
  rw [hd]
  cases K with
  | false=>
   rw [hK rfl]
   exact ⟨_,_,rfl,rfl,by decide⟩
  | true=>
   obtain ⟨c,r',h1,h2⟩:=hA rfl
   simp only [if_true,cond_false]
   rw [h1]
   simp only []
   cases ha:jh (qe .i64) r.er e.er with
   | error k=>
    rw [ha] at h2
    obtain ⟨rfl,h3⟩:=h2
    rw [decide_eq_false h3]
    exact ⟨_,_,rfl,rfl,h3⟩
   | ok s=>
    rw [ha] at h2
    obtain ⟨rfl,rfl⟩:=h2
    exact ⟨_,_,rfl,rfl,rfl⟩
theorem qab {α:Type} {o:Option α} (h:o.isSome=true):∃ x,o=some x:=Option.isSome_iff_exists.1 h
theorem qb7 {α:Type} {o:Option α} (h:o.isSome=false):o=none:=by cases o <;> simp at h ⊢
theorem y7 {k:List UInt8} {a c:Nat} (hk:e.kind=k) (hf:yz k=some (a,c)) (hc:zb e.er=0):(e.names.getD []).length=a∧(e.values.getD []).length=c:=by
 obtain ⟨_,f,h1,h2,h3⟩:=checkE_names hc
 rw [show e.er.kind=k from hk,hf] at h1
 cases h1
 exact ⟨h2,h3⟩
theorem qb4 {α:Type} {l:List α} (h:l.length=1):∃ a,l=[a]:=List.length_eq_one_iff.1 h
theorem qa2 {α:Type} {l:List α} (h:l.length=2):∃ a b,l=[a,b]:=by
 match l,h with
 | [a,b],_=>exact ⟨a,b,rfl⟩
theorem jql {α:Type} {l:List α} (h:l.length=3):∃ a b c,l=[a,b,c]:=by
 match l,h with
 | [a,b,c],_=>exact ⟨a,b,c,rfl⟩
theorem qga {r:SReg} {n:List UInt8}:yw r 45 n=true:=rfl
theorem rl {r:SReg} {n:List UInt8}:yw r 108 n=(zz r n).isSome:=rfl
theorem rp {r:SReg} {n:List UInt8}:yw r 112 n=(z6 r n).isSome:=rfl
theorem ru {r:SReg} {n:List UInt8}:yw r 117 n=(zq r n).isSome:=rfl
theorem jrx (b:GB r) (hk:e.kind=qcz) (hc:zb e.er=0):qa3 (f121 r e) (after (qe .i64) r.er e.er):=by
 obtain ⟨h1,h2⟩:=y7 hk (show yz qcz=some (2,2) from rfl) hc
 obtain ⟨n0,n1,hn⟩:=qa2 h1
 obtain ⟨v0,v1,hv⟩:=qa2 h2
 refine qbi (K:=true) hv (by have:=qjg (a:=45) (c:=45) b (by rw [hk]; rfl) rfl rfl hn; simpa [qga] using this) (fun h=>by cases h) (fun _=>?_)
 rw [hk]
 exact a105 b hk hn hv
theorem q61 (b:GB r) (hk:e.kind=kr) (hc:zb e.er=0):qa3 (f121 r e) (after (qe .i64) r.er e.er):=by
 obtain ⟨h1,h2⟩:=y7 hk (show yz kr=some (1,1) from rfl) hc
 obtain ⟨n0,hn⟩:=qb4 h1
 obtain ⟨v0,hv⟩:=qb4 h2
 refine qbi (K:=true) hv (by have:=qj1 (a:=45) b (by rw [hk]; rfl) rfl hn; simpa [qga] using this) (fun h=>by cases h) (fun _=>?_)
 rw [hk]
 exact zfo b hk hn hv
theorem jlr (b:GB r) (hk:e.kind=qbq) (hc:zb e.er=0):qa3 (f121 r e) (after (qe .i64) r.er e.er):=by
 obtain ⟨h1,h2⟩:=y7 hk (show yz qbq=some (2,2) from rfl) hc
 obtain ⟨n0,n1,hn⟩:=qa2 h1
 obtain ⟨v0,v1,hv⟩:=qa2 h2
 refine qbi (K:=(z6 r.er n0).isSome) hv (by have:=qjg (a:=112) (c:=45) b (by rw [hk]; rfl) rfl rfl hn; rw [show (yw r.er 112 n0 && yw r.er 45 n1)=((z6 r.er n0).isSome) from by simp only [qga,rl,rp,ru,Bool.true_and,Bool.and_true]] at this; exact this) (fun h=>?_) (fun h=>?_)
 ·have h:=qb7 h
  unfold jh qax
  rw [show e.er.kind=qbq from hk,if_neg (by decide),if_pos (by decide),nm0 hn,h]
 ·obtain ⟨k,hp⟩:=qab h
  rw [hk]
  exact j7w b hk hn hv hp
theorem jjm (b:GB r) (hk:e.kind=qbz) (hc:zb e.er=0):qa3 (f121 r e) (after (qe .i64) r.er e.er):=by
 obtain ⟨h1,h2⟩:=y7 hk (show yz qbz=some (2,3) from rfl) hc
 obtain ⟨n0,n1,hn⟩:=qa2 h1
 obtain ⟨v0,v1,v2,hv⟩:=jql h2
 refine qbi (K:=(z6 r.er n0).isSome) hv (by have:=qjg (a:=112) (c:=45) b (by rw [hk]; rfl) rfl rfl hn; rw [show (yw r.er 112 n0 && yw r.er 45 n1)=((z6 r.er n0).isSome) from by simp only [qga,rl,rp,ru,Bool.true_and,Bool.and_true]] at this; exact this) (fun h=>?_) (fun h=>?_)
 ·have h:=qb7 h
  unfold jh qax
  rw [show e.er.kind=qbz from hk,if_neg (by decide),if_pos (by decide),nm0 hn,h]
 ·obtain ⟨k,hp⟩:=qab h
  rw [hk]
  exact zb8 b hk hn hv hp
theorem jd9 (b:GB r) (hk:e.kind=qb8) (hc:zb e.er=0):qa3 (f121 r e) (after (qe .i64) r.er e.er):=by
 obtain ⟨h1,h2⟩:=y7 hk (show yz qb8=some (1,1) from rfl) hc
 obtain ⟨n0,hn⟩:=qb4 h1
 obtain ⟨v0,hv⟩:=qb4 h2
 refine qbi (K:=(z6 r.er n0).isSome) hv (by have:=qj1 (a:=112)  b (by rw [hk]; rfl) rfl hn; rw [show (yw r.er 112 n0)=((z6 r.er n0).isSome) from by simp only [qga,rl,rp,ru,Bool.true_and,Bool.and_true]] at this; exact this) (fun h=>?_) (fun h=>?_)
 ·have h:=qb7 h
  unfold jh qax
  rw [show e.er.kind=qb8 from hk,if_neg (by decide),if_pos (by decide),nm0 hn,h]
 ·obtain ⟨k,hp⟩:=qab h
  rw [hk]
  exact a109 b hk hn hv hp
theorem jcp (b:GB r) (hk:e.kind=qbw) (hc:zb e.er=0):qa3 (f121 r e) (after (qe .i64) r.er e.er):=by
 obtain ⟨h1,h2⟩:=y7 hk (show yz qbw=some (2,1) from rfl) hc
 obtain ⟨n0,n1,hn⟩:=qa2 h1
 obtain ⟨v0,hv⟩:=qb4 h2
 refine qbi (K:=(z6 r.er n1).isSome) hv (by have:=qjg (a:=45) (c:=112) b (by rw [hk]; rfl) rfl rfl hn; rw [show (yw r.er 45 n0 && yw r.er 112 n1)=((z6 r.er n1).isSome) from by simp only [qga,rl,rp,ru,Bool.true_and,Bool.and_true]] at this; exact this) (fun h=>?_) (fun h=>?_)
 ·have h:=qb7 h
  unfold jh qff
  rw [show e.er.kind=qbw from hk,if_pos (by decide),if_neg (by decide),if_neg (by decide),nm1 hn]
  unfold qbp
  rw [h]; rfl
 ·obtain ⟨k,hp⟩:=qab h
  rw [hk]
  exact zas b hk hn hv hp
theorem jn8 (b:GB r) (w:WF r.er) (hk:e.kind=qcw) (hc:zb e.er=0):qa3 (f121 r e) (after (qe .i64) r.er e.er):=by
 obtain ⟨h1,h2⟩:=y7 hk (show yz qcw=some (2,2) from rfl) hc
 obtain ⟨n0,n1,hn⟩:=qa2 h1
 obtain ⟨v0,v1,hv⟩:=qa2 h2
 refine qbi (K:=(zq r.er n0).isSome && (zz r.er n1).isSome) hv (by have:=qjg (a:=117) (c:=108) b (by rw [hk]; rfl) rfl rfl hn; rw [show (yw r.er 117 n0 && yw r.er 108 n1)=((zq r.er n0).isSome && (zz r.er n1).isSome) from by simp only [qga,rl,rp,ru,Bool.true_and,Bool.and_true]] at this; exact this) (fun h=>?_) (fun h=>?_)
 ·cases h1:zq r.er n0 with
  | none=>
   rw [kn hk (by decide) (by decide),if_neg (by decide)]
   unfold qds
   rw [nm0 hn,h1]
  | some k=>
   rw [h1] at h
   have h:=qb7 (show (zz r.er n1).isSome=false from h)
   obtain ⟨u,g1,_,g3⟩:=qel h1
   rw [kn hk (by decide) (by decide),if_neg (by decide),onU (nm0 hn) h1 g3,if_pos hk]
   unfold qn1
   rw [nm1 hn,h]
 ·rw [Bool.and_eq_true] at h
  obtain ⟨k,hp⟩:=qab h.1
  obtain ⟨j,hq⟩:=qab h.2
  rw [hk]
  exact zev b w hk hn hv hp hq
theorem q6n (b:GB r) (w:WF r.er) (hk:e.kind=qan) (hc:zb e.er=0):qa3 (f121 r e) (after (qe .i64) r.er e.er):=by
 obtain ⟨h1,h2⟩:=y7 hk (show yz qan=some (2,2) from rfl) hc
 obtain ⟨n0,n1,hn⟩:=qa2 h1
 obtain ⟨v0,v1,hv⟩:=qa2 h2
 refine qbi (K:=(zq r.er n0).isSome) hv (by have:=qjg (a:=117) (c:=45) b (by rw [hk]; rfl) rfl rfl hn; rw [show (yw r.er 117 n0 && yw r.er 45 n1)=((zq r.er n0).isSome) from by simp only [qga,rl,rp,ru,Bool.true_and,Bool.and_true]] at this; exact this) (fun h=>?_) (fun h=>?_)
 ·have h:=qb7 h
  rw [kn hk (by decide) (by decide),if_neg (by decide)]
  unfold qds
  rw [nm0 hn,h]
 ·obtain ⟨k,hp⟩:=qab h
  rw [hk]
  exact zec b w hk hn hv hp
theorem jaf (b:GB r) (w:WF r.er) (hk:e.kind=qbl) (hc:zb e.er=0):qa3 (f121 r e) (after (qe .i64) r.er e.er):=by
 obtain ⟨h1,h2⟩:=y7 hk (show yz qbl=some (1,1) from rfl) hc
 obtain ⟨n0,hn⟩:=qb4 h1
 obtain ⟨v0,hv⟩:=qb4 h2
 refine qbi (K:=(zq r.er n0).isSome) hv (by have:=qj1 (a:=117)  b (by rw [hk]; rfl) rfl hn; rw [show (yw r.er 117 n0)=((zq r.er n0).isSome) from by simp only [qga,rl,rp,ru,Bool.true_and,Bool.and_true]] at this; exact this) (fun h=>?_) (fun h=>?_)
 ·have h:=qb7 h
  rw [kn hk (by decide) (by decide),if_neg (by decide)]
  unfold qds
  rw [nm0 hn,h]
 ·obtain ⟨k,hp⟩:=qab h
  rw [hk]
  exact zdt b w hk hn hv hp
theorem jkz (b:GB r) (hk:e.kind=qb0) (hc:zb e.er=0):qa3 (f121 r e) (after (qe .i64) r.er e.er):=by
 obtain ⟨h1,h2⟩:=y7 hk (show yz qb0=some (2,1) from rfl) hc
 obtain ⟨n0,n1,hn⟩:=qa2 h1
 obtain ⟨v0,hv⟩:=qb4 h2
 refine qbi (K:=(zq r.er n0).isSome && (zq r.er n1).isSome) hv (by have:=qjg (a:=117) (c:=117) b (by rw [hk]; rfl) rfl rfl hn; rw [show (yw r.er 117 n0 && yw r.er 117 n1)=((zq r.er n0).isSome && (zq r.er n1).isSome) from by simp only [qga,rl,rp,ru,Bool.true_and,Bool.and_true]] at this; exact this) (fun h=>?_) (fun h=>?_)
 ·cases h1:zq r.er n0 with
  | none=>
   rw [kn hk (by decide) (by decide),if_neg (by decide)]
   unfold qds
   rw [nm0 hn,h1]
  | some k=>
   rw [h1] at h
   have h:=qb7 (show (zq r.er n1).isSome=false from h)
   obtain ⟨u,g1,_,g3⟩:=qel h1
   rw [kn hk (by decide) (by decide),if_neg (by decide),onU (nm0 hn) h1 g3,if_neg (by rw [hk]; decide),if_pos hk]
   unfold qjh
   rw [nm1 hn,h]
 ·rw [Bool.and_eq_true] at h
  obtain ⟨k,hp⟩:=qab h.1
  obtain ⟨j,hq⟩:=qab h.2
  rw [hk]
  exact j98 b hk hn hv hp hq
theorem jlb (b:GB r) (hk:e.kind=qcf) (hc:zb e.er=0):qa3 (f121 r e) (after (qe .i64) r.er e.er):=by
 obtain ⟨h1,h2⟩:=y7 hk (show yz qcf=some (1,1) from rfl) hc
 obtain ⟨n0,hn⟩:=qb4 h1
 obtain ⟨v0,hv⟩:=qb4 h2
 refine qbi (K:=(zz r.er n0).isSome) hv (by have:=qj1 (a:=108)  b (by rw [hk]; rfl) rfl hn; rw [show (yw r.er 108 n0)=((zz r.er n0).isSome) from by simp only [qga,rl,rp,ru,Bool.true_and,Bool.and_true]] at this; exact this) (fun h=>?_) (fun h=>?_)
 ·have h:=qb7 h
  rw [kn hk (by decide) (by decide),if_pos (by decide)]
  unfold qkm
  rw [nm0 hn,h]
 ·obtain ⟨k,hp⟩:=qab h
  rw [hk]
  exact zbe b hk hn hv hp
theorem jlo (b:GB r) (hk:e.kind=qea) (hc:zb e.er=0):qa3 (f121 r e) (after (qe .i64) r.er e.er):=by
 obtain ⟨h1,h2⟩:=y7 hk (show yz qea=some (1,1) from rfl) hc
 obtain ⟨n0,hn⟩:=qb4 h1
 obtain ⟨v0,hv⟩:=qb4 h2
 refine qbi (K:=(zz r.er n0).isSome) hv (by have:=qj1 (a:=108)  b (by rw [hk]; rfl) rfl hn; rw [show (yw r.er 108 n0)=((zz r.er n0).isSome) from by simp only [qga,rl,rp,ru,Bool.true_and,Bool.and_true]] at this; exact this) (fun h=>?_) (fun h=>?_)
 ·have h:=qb7 h
  rw [kn hk (by decide) (by decide),if_pos (by decide)]
  unfold qkm
  rw [nm0 hn,h]
 ·obtain ⟨k,hp⟩:=qab h
  rw [hk]
  exact j9l b hk hn hv hp
theorem jkt (b:GB r) (w:WF r.er) (hk:e.kind=qau) (hc:zb e.er=0):qa3 (f121 r e) (after (qe .i64) r.er e.er):=by
 obtain ⟨h1,h2⟩:=y7 hk (show yz qau=some (1,1) from rfl) hc
 obtain ⟨n0,hn⟩:=qb4 h1
 obtain ⟨v0,hv⟩:=qb4 h2
 refine qbi (K:=(zq r.er n0).isSome) hv (by have:=qj1 (a:=117)  b (by rw [hk]; rfl) rfl hn; rw [show (yw r.er 117 n0)=((zq r.er n0).isSome) from by simp only [qga,rl,rp,ru,Bool.true_and,Bool.and_true]] at this; exact this) (fun h=>?_) (fun h=>?_)
 ·have h:=qb7 h
  rw [kn hk (by decide) (by decide),if_neg (by decide)]
  unfold qds
  rw [nm0 hn,h]
 ·obtain ⟨k,hp⟩:=qab h
  rw [hk]
  exact zcm b w hk hn hv hp
theorem q31 (b:GB r) (hk:e.kind=qcb) (hc:zb e.er=0):qa3 (f121 r e) (after (qe .i64) r.er e.er):=by
 obtain ⟨h1,h2⟩:=y7 hk (show yz qcb=some (1,1) from rfl) hc
 obtain ⟨n0,hn⟩:=qb4 h1
 obtain ⟨v0,hv⟩:=qb4 h2
 refine qbi (K:=(zq r.er n0).isSome) hv (by have:=qj1 (a:=117)  b (by rw [hk]; rfl) rfl hn; rw [show (yw r.er 117 n0)=((zq r.er n0).isSome) from by simp only [qga,rl,rp,ru,Bool.true_and,Bool.and_true]] at this; exact this) (fun h=>?_) (fun h=>?_)
 ·have h:=qb7 h
  rw [kn hk (by decide) (by decide),if_neg (by decide)]
  unfold qds
  rw [nm0 hn,h]
 ·obtain ⟨k,hp⟩:=qab h
  rw [hk]
  exact zey b hk hn hv hp
theorem q5j (b:GB r) (w:WF r.er) (hc:zb e.er=0) (hu:e.kind ≠ qc4):qa3 (f121 r e) (after (qe .i64) r.er e.er):=by
 obtain ⟨_,f,h1,_,_⟩:=checkE_names hc
 have hm:e.kind∈k_forms.map (·.1):=by
  unfold yz at h1
  cases hf:k_forms.find? (fun x=>decide (x.1=e.er.kind)) with
  | none=>rw [hf] at h1; cases h1
  | some x=>
   have h2:=List.find?_some hf
   have h3:=List.mem_of_find?_eq_some hf
   rw [show e.kind=x.1 from (of_decide_eq_true h2).symm]
   exact List.mem_map_of_mem h3
 simp only [k_forms,List.map_cons,List.map_nil,List.mem_cons,List.mem_singleton,List.not_mem_nil,or_false] at hm
 rcases hm with h | h | h | h | h | h | h | h | h | h | h | h | h | h | h
 ·exact jrx b h hc
 ·exact q61 b h hc
 ·exact jlr b h hc
 ·exact jjm b h hc
 ·exact jd9 b h hc
 ·exact jcp b h hc
 ·exact jn8 b w h hc
 ·exact q6n b w h hc
 ·exact jaf b w h hc
 ·exact jkz b h hc
 ·exact jlb b h hc
 ·exact jlo b h hc
 ·exact jkt b w h hc
 ·exact q31 b h hc
 ·exact absurd h hu
end Go.Z
