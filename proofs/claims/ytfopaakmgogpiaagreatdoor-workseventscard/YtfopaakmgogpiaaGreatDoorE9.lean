/- Chapter 10, plain. -/
import Derived.Test.YtfopaakmgogpiaaGreatDoorE6
set_option linter.unusedVariables false
set_option linter.unusedSimpArgs false
set_option maxRecDepth 100000
set_option maxHeartbeats 4000000
namespace Go.Z
open Go Go.Abs Go.W
variable {r:qc}{e:ql}
def qmz (r:qv)(c:Int)(n:List UInt8):Bool:=if c=108 then(kx r n).isSome else if c=112 then(ky r n).isSome else if c=117 then(km r n).isSome else true
theorem qyk (b:GB r){c:Int}{n:List UInt8}:f202 r c n=some (qmz r.er c n):=by
 unfold f202 qmz
 by_cases h1:c=108
 ·simp only[h1,decide_true,cT,if_true,qn7 (yg b.L),jw,qdu]
 ·by_cases h2:c=112
  ·simp only[h1,h2,decide_true,decide_false,cT,cond_false,if_true,if_false,qe6 (yg b.P),jw,qdu];rfl
  ·by_cases h3:c=117
   ·simp only[h1,h2,h3,decide_true,decide_false,cT,cond_false,if_true,if_false,qi6 (yg b.U),jw,qdu];rfl
   ·simp only[h1,h2,h3,decide_false,cond_false,if_false]
def qau (r:qv)(c:UInt8)(n:List UInt8):Bool:=decide ((c.toNat:Int)=45)||qmz r (c.toNat:Int) n
theorem qkq (b:GB r){a:UInt8}{n0:List UInt8}{t:List (List UInt8)}(hr:yu e.kind=[a])(hd:zg [a] 0=(a.toNat,1))(hn:e.names.getD []=n0::t):
  ∃d,itO (qm2 r e) none=some (if qau r.er a n0 then .inr d else .inl d):=by
 have z:qib r e=some (if qau r.er a n0 then .inl (some 1)else .inr (.inl 1)):=by
  unfold qib qau
  simp only[hr,hd,jw,qcl hn,qyk b]
  simp only[List.length_singleton,Nat.lt_irrefl,show decide (0<1)=true from rfl,cT]
  cases decide ((a.toNat:Int)=45)<;>cases qmz r.er (a.toNat:Int) n0<;>rfl
 cases hk:qau r.er a n0 with
 |true=>
  rw[hk]at z
  refine⟨1,?_⟩
  rw[qec (s':=some 1) z]
  refine qa6 (d:=(Sum.inr 1:Nat⊕Nat)) ?_
  show qf9 r e 1=_
  unfold qf9
  simp only[hr,List.length_singleton]
  rfl
 |false=>
  rw[hk]at z
  exact⟨1,qa6 z⟩
theorem qkn (b:GB r){a c:UInt8}{n0 n1:List UInt8}{t:List (List UInt8)}(hr:yu e.kind=[a,c])(hd:zg [a,c] 0=(a.toNat,1))(hd1:zg [a,c] 1=(c.toNat,1))(hn:e.names.getD []=n0::n1::t):
  ∃d,itO (qm2 r e) none=some (if qau r.er a n0&&qau r.er c n1 then .inr d else .inl d):=by
 have z:qib r e=some (if qau r.er a n0 then .inl (some 1)else .inr (.inl 1)):=by
  unfold qib qau
  simp only[hr,hd,jw,qcl hn,qyk b]
  simp only[List.length_cons,List.length_nil,show decide (0<0+1+1)=true from rfl,cT]
  cases decide ((a.toNat:Int)=45)<;>cases qmz r.er (a.toNat:Int) n0<;>rfl
 have y:qf9 r e 1=some (if qau r.er c n1 then .inl (some 2)else .inr (.inl 2)):=by
  unfold qf9 qau
  simp only[hr,hd1,jw,show((1:Nat):Int)=1 from rfl,qcc hn,qyk b]
  simp only[List.length_cons,List.length_nil,show decide (1<0+1+1)=true from rfl,cT]
  cases decide ((c.toNat:Int)=45)<;>cases qmz r.er (c.toNat:Int) n1<;>rfl
 cases hk:qau r.er a n0 with
 |false=>
  rw[hk]at z
  exact⟨1,qa6 z⟩
 |true=>
  rw[hk]at z
  cases hk2:qau r.er c n1 with
  |false=>
   rw[hk2]at y
   refine⟨2,?_⟩
   rw[qec (s':=some 1) z]
   exact qa6 (d:=(Sum.inl 2:Nat⊕Nat)) y
  |true=>
   rw[hk2]at y
   refine⟨2,?_⟩
   rw[qec (s':=some 1) z,qec (s':=some 2) y]
   refine qa6 (d:=(Sum.inr 2:Nat⊕Nat)) ?_
   show qf9 r e 2=_
   unfold qf9
   simp only[hr,List.length_cons,List.length_nil]
   rfl
def qcg (x:Option (qc×Int))(y:Res):Prop:=∃r' c,x=some (r',c)∧match y with
 | .error k=>c=k∧k≠0
 | .ok s=>c=0∧r'.er=s
theorem qcu {v0:Int}{t:List Int}{K:Bool}(hv:e.values.getD []=v0::t)(hl:∃d,itO (qm2 r e) none=some (if K then .inr d else .inl d))(hK:K=false→z8 (j6 .i64) r.er e.er=.error 10)(hA:K=true→qgx (qbk (qxm e.kind) r e) (z8 (j6 .i64) r.er e.er)):
  qcg (f121 r e) (after (j6 .i64) r.er e.er):=by
 unfold f121 after
 rw[qcl hv,vl0 hv]
 simp only[jw]
 by_cases h:v0<r.day
 ·rw[dT h,if_pos (show v0<r.er.day from h)]
  exact⟨_,_,rfl,rfl,by decide⟩
 ·rw[dF h,if_neg (show ¬v0<r.er.day from h)]
  obtain⟨d,hd⟩:=hl
  rw[hd]
  cases K with
  |false=>
   rw[hK rfl]
   exact⟨_,_,rfl,rfl,by decide⟩
  |true=>
   obtain⟨c,r',h1,h2⟩:=hA rfl
   simp only[if_true,cond_false]
   rw[h1]
   simp only[]
   cases ha:z8 (j6 .i64) r.er e.er with
   |error k=>
    rw[ha]at h2
    obtain⟨rfl,h3⟩:=h2
    rw[dF h3]
    exact⟨_,_,rfl,rfl,h3⟩
   |ok s=>
    rw[ha]at h2
    obtain⟨rfl,rfl⟩:=h2
    exact⟨_,_,rfl,rfl,rfl⟩
theorem qbm {α:Type}{o:Option α}(h:o.isSome=true):∃x,o=some x:=Option.isSome_iff_exists.1 h
theorem qdi {α:Type}{o:Option α}(h:o.isSome=false):o=none:=by cases o<;>simp at h ⊢
theorem qaz {k:List UInt8}{a c:Nat}(hk:e.kind=k)(hf:qax k=some (a,c))(hc:yx e.er=0):(e.names.getD []).length=a∧(e.values.getD []).length=c:=by
 obtain⟨_,f,h1,h2,h3⟩:=checkE_names hc
 rw[show e.er.kind=k from hk,hf]at h1
 cases h1
 exact⟨h2,h3⟩
theorem qdf {α:Type}{l:List α}(h:l.length=1):∃a,l=[a]:=List.length_eq_one_iff.1 h
theorem qch {α:Type}{l:List α}(h:l.length=2):∃a b,l=[a,b]:=by
 match l,h with
 | [a,b],_=>exact⟨a,b,rfl⟩
theorem jr7 {α:Type}{l:List α}(h:l.length=3):∃a b c,l=[a,b,c]:=by
 match l,h with
 | [a,b,c],_=>exact⟨a,b,c,rfl⟩
theorem qhe {r:qv}{n:List UInt8}:qau r 45 n=true:=rfl
theorem rl {r:qv}{n:List UInt8}:qau r 108 n=(kx r n).isSome:=rfl
theorem rp {r:qv}{n:List UInt8}:qau r 112 n=(ky r n).isSome:=rfl
theorem ru {r:qv}{n:List UInt8}:qau r 117 n=(km r n).isSome:=rfl
theorem jnw (b:GB r)(hk:e.kind=qd8)(hc:yx e.er=0):qcg (f121 r e) (after (j6 .i64) r.er e.er):=by
 obtain⟨h1,h2⟩:=qaz hk (show qax qd8=some (2,2)from rfl) hc
 obtain⟨n0,n1,hn⟩:=qch h1
 obtain⟨v0,v1,hv⟩:=qch h2
 refine qcu (K:=true) hv (by have:=qkn (a:=45) (c:=45) b (by rw[hk];rfl) rfl rfl hn;simpa[qhe]using this) (fun h=>by cases h) (fun _=>?_)
 rw[hk]
 exact a105 b hk hn hv
theorem q8n (b:GB r)(hk:e.kind=qbd)(hc:yx e.er=0):qcg (f121 r e) (after (j6 .i64) r.er e.er):=by
 obtain⟨h1,h2⟩:=qaz hk (show qax qbd=some (1,1)from rfl) hc
 obtain⟨n0,hn⟩:=qdf h1
 obtain⟨v0,hv⟩:=qdf h2
 refine qcu (K:=true) hv (by have:=qkq (a:=45) b (by rw[hk];rfl) rfl hn;simpa[qhe]using this) (fun h=>by cases h) (fun _=>?_)
 rw[hk]
 exact zgz b hk hn hv
theorem jmr (b:GB r)(hk:e.kind=qc2)(hc:yx e.er=0):qcg (f121 r e) (after (j6 .i64) r.er e.er):=by
 obtain⟨h1,h2⟩:=qaz hk (show qax qc2=some (2,2)from rfl) hc
 obtain⟨n0,n1,hn⟩:=qch h1
 obtain⟨v0,v1,hv⟩:=qch h2
 refine qcu (K:=(ky r.er n0).isSome) hv (by have:=qkn (a:=112) (c:=45) b (by rw[hk];rfl) rfl rfl hn;rw[show(qau r.er 112 n0&&qau r.er 45 n1)=((ky r.er n0).isSome)from by simp only[qhe,rl,rp,ru,Bool.true_and,Bool.and_true]]at this;exact this) (fun h=>?_) (fun h=>?_)
 ·have h:=qdi h
  unfold z8 qb8
  rw[show e.er.kind=qc2 from hk,if_neg (by decide),if_pos (by decide),nm0 hn,h]
 ·obtain⟨k,hp⟩:=qbm h
  rw[hk]
  exact zcz b hk hn hv hp
theorem jm0 (b:GB r)(hk:e.kind=qc9)(hc:yx e.er=0):qcg (f121 r e) (after (j6 .i64) r.er e.er):=by
 obtain⟨h1,h2⟩:=qaz hk (show qax qc9=some (2,3)from rfl) hc
 obtain⟨n0,n1,hn⟩:=qch h1
 obtain⟨v0,v1,v2,hv⟩:=jr7 h2
 refine qcu (K:=(ky r.er n0).isSome) hv (by have:=qkn (a:=112) (c:=45) b (by rw[hk];rfl) rfl rfl hn;rw[show(qau r.er 112 n0&&qau r.er 45 n1)=((ky r.er n0).isSome)from by simp only[qhe,rl,rp,ru,Bool.true_and,Bool.and_true]]at this;exact this) (fun h=>?_) (fun h=>?_)
 ·have h:=qdi h
  unfold z8 qb8
  rw[show e.er.kind=qc9 from hk,if_neg (by decide),if_pos (by decide),nm0 hn,h]
 ·obtain⟨k,hp⟩:=qbm h
  rw[hk]
  exact zcq b hk hn hv hp
theorem jgt (b:GB r)(hk:e.kind=qdh)(hc:yx e.er=0):qcg (f121 r e) (after (j6 .i64) r.er e.er):=by
 obtain⟨h1,h2⟩:=qaz hk (show qax qdh=some (1,1)from rfl) hc
 obtain⟨n0,hn⟩:=qdf h1
 obtain⟨v0,hv⟩:=qdf h2
 refine qcu (K:=(ky r.er n0).isSome) hv (by have:=qkq (a:=112)  b (by rw[hk];rfl) rfl hn;rw[show(qau r.er 112 n0)=((ky r.er n0).isSome)from by simp only[qhe,rl,rp,ru,Bool.true_and,Bool.and_true]]at this;exact this) (fun h=>?_) (fun h=>?_)
 ·have h:=qdi h
  unfold z8 qb8
  rw[show e.er.kind=qdh from hk,if_neg (by decide),if_pos (by decide),nm0 hn,h]
 ·obtain⟨k,hp⟩:=qbm h
  rw[hk]
  exact a109 b hk hn hv hp
theorem jit (b:GB r)(hk:e.kind=qc7)(hc:yx e.er=0):qcg (f121 r e) (after (j6 .i64) r.er e.er):=by
 obtain⟨h1,h2⟩:=qaz hk (show qax qc7=some (2,1)from rfl) hc
 obtain⟨n0,n1,hn⟩:=qch h1
 obtain⟨v0,hv⟩:=qdf h2
 refine qcu (K:=(ky r.er n1).isSome) hv (by have:=qkn (a:=45) (c:=112) b (by rw[hk];rfl) rfl rfl hn;rw[show(qau r.er 45 n0&&qau r.er 112 n1)=((ky r.er n1).isSome)from by simp only[qhe,rl,rp,ru,Bool.true_and,Bool.and_true]]at this;exact this) (fun h=>?_) (fun h=>?_)
 ·have h:=qdi h
  unfold z8 qgr
  rw[show e.er.kind=qc7 from hk,if_pos (by decide),if_neg (by decide),if_neg (by decide),nm1 hn]
  unfold qc0
  rw[h];rfl
 ·obtain⟨k,hp⟩:=qbm h
  rw[hk]
  exact zfz b hk hn hv hp
theorem jpb (b:GB r)(w:WF r.er)(hk:e.kind=qd7)(hc:yx e.er=0):qcg (f121 r e) (after (j6 .i64) r.er e.er):=by
 obtain⟨h1,h2⟩:=qaz hk (show qax qd7=some (2,2)from rfl) hc
 obtain⟨n0,n1,hn⟩:=qch h1
 obtain⟨v0,v1,hv⟩:=qch h2
 refine qcu (K:=(km r.er n0).isSome&&(kx r.er n1).isSome) hv (by have:=qkn (a:=117) (c:=108) b (by rw[hk];rfl) rfl rfl hn;rw[show(qau r.er 117 n0&&qau r.er 108 n1)=((km r.er n0).isSome&&(kx r.er n1).isSome)from by simp only[qhe,rl,rp,ru,Bool.true_and,Bool.and_true]]at this;exact this) (fun h=>?_) (fun h=>?_)
 ·cases h1:km r.er n0 with
  |none=>
   rw[qbb hk (by decide) (by decide),if_neg (by decide)]
   unfold qe2
   rw[nm0 hn,h1]
  |some k=>
   rw[h1]at h
   have h:=qdi (show(kx r.er n1).isSome=false from h)
   obtain⟨u,g1,_,g3⟩:=qfo h1
   rw[qbb hk (by decide) (by decide),if_neg (by decide),onU (nm0 hn) h1 g3,if_pos hk]
   unfold qpk
   rw[nm1 hn,h]
 ·rw[Bool.and_eq_true]at h
  obtain⟨k,hp⟩:=qbm h.1
  obtain⟨j,hq⟩:=qbm h.2
  rw[hk]
  exact zeq b w hk hn hv hp hq
theorem jaj (b:GB r)(w:WF r.er)(hk:e.kind=qbz)(hc:yx e.er=0):qcg (f121 r e) (after (j6 .i64) r.er e.er):=by
 obtain⟨h1,h2⟩:=qaz hk (show qax qbz=some (2,2)from rfl) hc
 obtain⟨n0,n1,hn⟩:=qch h1
 obtain⟨v0,v1,hv⟩:=qch h2
 refine qcu (K:=(km r.er n0).isSome) hv (by have:=qkn (a:=117) (c:=45) b (by rw[hk];rfl) rfl rfl hn;rw[show(qau r.er 117 n0&&qau r.er 45 n1)=((km r.er n0).isSome)from by simp only[qhe,rl,rp,ru,Bool.true_and,Bool.and_true]]at this;exact this) (fun h=>?_) (fun h=>?_)
 ·have h:=qdi h
  rw[qbb hk (by decide) (by decide),if_neg (by decide)]
  unfold qe2
  rw[nm0 hn,h]
 ·obtain⟨k,hp⟩:=qbm h
  rw[hk]
  exact zg6 b w hk hn hv hp
theorem jco (b:GB r)(w:WF r.er)(hk:e.kind=qcw)(hc:yx e.er=0):qcg (f121 r e) (after (j6 .i64) r.er e.er):=by
 obtain⟨h1,h2⟩:=qaz hk (show qax qcw=some (1,1)from rfl) hc
 obtain⟨n0,hn⟩:=qdf h1
 obtain⟨v0,hv⟩:=qdf h2
 refine qcu (K:=(km r.er n0).isSome) hv (by have:=qkq (a:=117)  b (by rw[hk];rfl) rfl hn;rw[show(qau r.er 117 n0)=((km r.er n0).isSome)from by simp only[qhe,rl,rp,ru,Bool.true_and,Bool.and_true]]at this;exact this) (fun h=>?_) (fun h=>?_)
 ·have h:=qdi h
  rw[qbb hk (by decide) (by decide),if_neg (by decide)]
  unfold qe2
  rw[nm0 hn,h]
 ·obtain⟨k,hp⟩:=qbm h
  rw[hk]
  exact j91 b w hk hn hv hp
theorem jlw (b:GB r)(hk:e.kind=qda)(hc:yx e.er=0):qcg (f121 r e) (after (j6 .i64) r.er e.er):=by
 obtain⟨h1,h2⟩:=qaz hk (show qax qda=some (2,1)from rfl) hc
 obtain⟨n0,n1,hn⟩:=qch h1
 obtain⟨v0,hv⟩:=qdf h2
 refine qcu (K:=(km r.er n0).isSome&&(km r.er n1).isSome) hv (by have:=qkn (a:=117) (c:=117) b (by rw[hk];rfl) rfl rfl hn;rw[show(qau r.er 117 n0&&qau r.er 117 n1)=((km r.er n0).isSome&&(km r.er n1).isSome)from by simp only[qhe,rl,rp,ru,Bool.true_and,Bool.and_true]]at this;exact this) (fun h=>?_) (fun h=>?_)
 ·cases h1:km r.er n0 with
  |none=>
   rw[qbb hk (by decide) (by decide),if_neg (by decide)]
   unfold qe2
   rw[nm0 hn,h1]
  |some k=>
   rw[h1]at h
   have h:=qdi (show(km r.er n1).isSome=false from h)
   obtain⟨u,g1,_,g3⟩:=qfo h1
   rw[qbb hk (by decide) (by decide),if_neg (by decide),onU (nm0 hn) h1 g3,if_neg (by rw[hk];decide),if_pos hk]
   unfold qkv
   rw[nm1 hn,h]
 ·rw[Bool.and_eq_true]at h
  obtain⟨k,hp⟩:=qbm h.1
  obtain⟨j,hq⟩:=qbm h.2
  rw[hk]
  exact zgm b hk hn hv hp hq
theorem jmw (b:GB r)(hk:e.kind=qdw)(hc:yx e.er=0):qcg (f121 r e) (after (j6 .i64) r.er e.er):=by
 obtain⟨h1,h2⟩:=qaz hk (show qax qdw=some (1,1)from rfl) hc
 obtain⟨n0,hn⟩:=qdf h1
 obtain⟨v0,hv⟩:=qdf h2
 refine qcu (K:=(kx r.er n0).isSome) hv (by have:=qkq (a:=108)  b (by rw[hk];rfl) rfl hn;rw[show(qau r.er 108 n0)=((kx r.er n0).isSome)from by simp only[qhe,rl,rp,ru,Bool.true_and,Bool.and_true]]at this;exact this) (fun h=>?_) (fun h=>?_)
 ·have h:=qdi h
  rw[qbb hk (by decide) (by decide),if_pos (by decide)]
  unfold qln
  rw[nm0 hn,h]
 ·obtain⟨k,hp⟩:=qbm h
  rw[hk]
  exact zb6 b hk hn hv hp
theorem jmq (b:GB r)(hk:e.kind=qfg)(hc:yx e.er=0):qcg (f121 r e) (after (j6 .i64) r.er e.er):=by
 obtain⟨h1,h2⟩:=qaz hk (show qax qfg=some (1,1)from rfl) hc
 obtain⟨n0,hn⟩:=qdf h1
 obtain⟨v0,hv⟩:=qdf h2
 refine qcu (K:=(kx r.er n0).isSome) hv (by have:=qkq (a:=108)  b (by rw[hk];rfl) rfl hn;rw[show(qau r.er 108 n0)=((kx r.er n0).isSome)from by simp only[qhe,rl,rp,ru,Bool.true_and,Bool.and_true]]at this;exact this) (fun h=>?_) (fun h=>?_)
 ·have h:=qdi h
  rw[qbb hk (by decide) (by decide),if_pos (by decide)]
  unfold qln
  rw[nm0 hn,h]
 ·obtain⟨k,hp⟩:=qbm h
  rw[hk]
  exact zdp b hk hn hv hp
theorem jk4 (b:GB r)(w:WF r.er)(hk:e.kind=qb6)(hc:yx e.er=0):qcg (f121 r e) (after (j6 .i64) r.er e.er):=by
 obtain⟨h1,h2⟩:=qaz hk (show qax qb6=some (1,1)from rfl) hc
 obtain⟨n0,hn⟩:=qdf h1
 obtain⟨v0,hv⟩:=qdf h2
 refine qcu (K:=(km r.er n0).isSome) hv (by have:=qkq (a:=117)  b (by rw[hk];rfl) rfl hn;rw[show(qau r.er 117 n0)=((km r.er n0).isSome)from by simp only[qhe,rl,rp,ru,Bool.true_and,Bool.and_true]]at this;exact this) (fun h=>?_) (fun h=>?_)
 ·have h:=qdi h
  rw[qbb hk (by decide) (by decide),if_neg (by decide)]
  unfold qe2
  rw[nm0 hn,h]
 ·obtain⟨k,hp⟩:=qbm h
  rw[hk]
  exact zeu b w hk hn hv hp
theorem q46 (b:GB r)(hk:e.kind=qdk)(hc:yx e.er=0):qcg (f121 r e) (after (j6 .i64) r.er e.er):=by
 obtain⟨h1,h2⟩:=qaz hk (show qax qdk=some (1,1)from rfl) hc
 obtain⟨n0,hn⟩:=qdf h1
 obtain⟨v0,hv⟩:=qdf h2
 refine qcu (K:=(km r.er n0).isSome) hv (by have:=qkq (a:=117)  b (by rw[hk];rfl) rfl hn;rw[show(qau r.er 117 n0)=((km r.er n0).isSome)from by simp only[qhe,rl,rp,ru,Bool.true_and,Bool.and_true]]at this;exact this) (fun h=>?_) (fun h=>?_)
 ·have h:=qdi h
  rw[qbb hk (by decide) (by decide),if_neg (by decide)]
  unfold qe2
  rw[nm0 hn,h]
 ·obtain⟨k,hp⟩:=qbm h
  rw[hk]
  exact zhd b hk hn hv hp
theorem q6z (b:GB r)(w:WF r.er)(hc:yx e.er=0)(hu:e.kind≠qek):qcg (f121 r e) (after (j6 .i64) r.er e.er):=by
 obtain⟨_,f,h1,_,_⟩:=checkE_names hc
 have hm:e.kind∈k_forms.map (·.1):=by
  unfold qax at h1
  cases hf:k_forms.find? (fun x=>decide (x.1=e.er.kind))with
  |none=>rw[hf]at h1;cases h1
  |some x=>
   have h2:=List.find?_some hf
   have h3:=List.mem_of_find?_eq_some hf
   rw[show e.kind=x.1 from(of_decide_eq_true h2).symm]
   exact List.mem_map_of_mem h3
 simp only[k_forms,List.map_cons,List.map_nil,List.mem_cons,List.mem_singleton,List.not_mem_nil,or_false]at hm
 rcases hm with h|h|h|h|h|h|h|h|h|h|h|h|h|h|h
 ·exact jnw b h hc
 ·exact q8n b h hc
 ·exact jmr b h hc
 ·exact jm0 b h hc
 ·exact jgt b h hc
 ·exact jit b h hc
 ·exact jpb b w h hc
 ·exact jaj b w h hc
 ·exact jco b w h hc
 ·exact jlw b h hc
 ·exact jmw b h hc
 ·exact jmq b h hc
 ·exact jk4 b w h hc
 ·exact q46 b h hc
 ·exact absurd h hu
end Go.Z
