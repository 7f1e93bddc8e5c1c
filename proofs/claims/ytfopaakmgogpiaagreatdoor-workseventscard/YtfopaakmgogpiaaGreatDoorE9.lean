/- Chapter 10, plain. -/
import Derived.Test.YtfopaakmgogpiaaGreatDoorE6
set_option linter.unusedVariables false
set_option linter.unusedSimpArgs false
set_option maxRecDepth 100000
set_option maxHeartbeats 4000000
namespace Go.Z
open Go Go.Abs Go.W
variable {r:qc}{e:ql}
def qp0 (r:qv)(c:Int)(n:List UInt8):Bool:=if c=108 then(qaj r n).isSome else if c=112 then(qak r n).isSome else if c=117 then(qab r n).isSome else true
theorem qzk (b:GB r){c:Int}{n:List UInt8}:f202 r c n=some (qp0 r.er c n):=by
 unfold f202 qp0
 by_cases h1:c=108
 ·simp only[h1,decide_true,cT,if_true,qo3 (yn b.L),jy,qeq]
 ·by_cases h2:c=112
  ·simp only[h1,h2,decide_true,decide_false,cT,cF,if_true,if_false,qf4 (yn b.P),jy,qeq];rfl
  ·by_cases h3:c=117
   ·simp only[h1,h2,h3,decide_true,decide_false,cT,cF,if_true,if_false,qkv (yn b.U),jy,qeq];rfl
   ·simp only[h1,h2,h3,decide_false,cF,if_false]
def qa7 (r:qv)(c:UInt8)(n:List UInt8):Bool:=decide ((c.toNat:Int)=45)||qp0 r (c.toNat:Int) n
theorem qmn (b:GB r){a:UInt8}{n0:List UInt8}{t:List (List UInt8)}(hr:kr e.kind=[a])(hd:zo [a] 0=(a.toNat,1))(hn:e.names.getD []=n0::t):
  ∃d,itO (qo1 r e) none=some (if qa7 r.er a n0 then .inr d else .inl d):=by
 have z:qjl r e=some (if qa7 r.er a n0 then .inl (some 1)else .inr (.inl 1)):=by
  unfold qjl qa7
  simp only[hr,hd,jy,qdb hn,qzk b]
  simp only[List.length_singleton,Nat.lt_irrefl,show decide (0<1)=true from rfl,cT]
  cases decide ((a.toNat:Int)=45)<;>cases qp0 r.er (a.toNat:Int) n0<;>rfl
 cases hk:qa7 r.er a n0 with
 |true=>
  rw[hk]at z
  refine⟨1,?_⟩
  rw[qfi (s':=some 1) z]
  refine qbn (d:=(Sum.inr 1:Nat⊕Nat)) ?_
  show qg7 r e 1=_
  unfold qg7
  simp only[hr,List.length_singleton]
  rfl
 |false=>
  rw[hk]at z
  exact⟨1,qbn z⟩
theorem ql8 (b:GB r){a c:UInt8}{n0 n1:List UInt8}{t:List (List UInt8)}(hr:kr e.kind=[a,c])(hd:zo [a,c] 0=(a.toNat,1))(hd1:zo [a,c] 1=(c.toNat,1))(hn:e.names.getD []=n0::n1::t):
  ∃d,itO (qo1 r e) none=some (if qa7 r.er a n0&&qa7 r.er c n1 then .inr d else .inl d):=by
 have z:qjl r e=some (if qa7 r.er a n0 then .inl (some 1)else .inr (.inl 1)):=by
  unfold qjl qa7
  simp only[hr,hd,jy,qdb hn,qzk b]
  simp only[List.length_cons,List.length_nil,show decide (0<0+1+1)=true from rfl,cT]
  cases decide ((a.toNat:Int)=45)<;>cases qp0 r.er (a.toNat:Int) n0<;>rfl
 have y:qg7 r e 1=some (if qa7 r.er c n1 then .inl (some 2)else .inr (.inl 2)):=by
  unfold qg7 qa7
  simp only[hr,hd1,jy,show((1:Nat):Int)=1 from rfl,qcy hn,qzk b]
  simp only[List.length_cons,List.length_nil,show decide (1<0+1+1)=true from rfl,cT]
  cases decide ((c.toNat:Int)=45)<;>cases qp0 r.er (c.toNat:Int) n1<;>rfl
 cases hk:qa7 r.er a n0 with
 |false=>
  rw[hk]at z
  exact⟨1,qbn z⟩
 |true=>
  rw[hk]at z
  cases hk2:qa7 r.er c n1 with
  |false=>
   rw[hk2]at y
   refine⟨2,?_⟩
   rw[qfi (s':=some 1) z]
   exact qbn (d:=(Sum.inl 2:Nat⊕Nat)) y
  |true=>
   rw[hk2]at y
   refine⟨2,?_⟩
   rw[qfi (s':=some 1) z,qfi (s':=some 2) y]
   refine qbn (d:=(Sum.inr 2:Nat⊕Nat)) ?_
   show qg7 r e 2=_
   unfold qg7
   simp only[hr,List.length_cons,List.length_nil]
   rfl
def qcv (x:Option (qc×Int))(y:Res):Prop:=∃r' c,x=some (r',c)∧match y with
 | .error k=>c=k∧k≠0
 | .ok s=>c=0∧r'.er=s
theorem qdd {v0:Int}{t:List Int}{K:Bool}(hv:e.values.getD []=v0::t)(hl:∃d,itO (qo1 r e) none=some (if K then .inr d else .inl d))(hK:K=false→yf (j8 .i64) r.er e.er=.error 10)(hA:K=true→qhx (qb1 (qyb e.kind) r e) (yf (j8 .i64) r.er e.er)):
  qcv (f121 r e) (after (j8 .i64) r.er e.er):=by
 unfold f121 after
 rw[qdb hv,vl0 hv]
 simp only[jy]
 by_cases h:v0<r.day
 ·rw[dT h,if_pos (show v0<r.er.day from h)]
  exact⟨_,_,rfl,rfl,by decide⟩
 ·rw[dF h,if_neg (show ¬v0<r.er.day from h)]
  obtain⟨d,hd⟩:=hl
  rw[hd]
  cases K with
  |false=>
   rw[hK rfl]
   exact⟨_,_,rfl,rfl,by decide⟩
  |true=>
   obtain⟨c,r',h1,h2⟩:=hA rfl
   simp only[if_true,cF]
   rw[h1]
   simp only[]
   cases ha:yf (j8 .i64) r.er e.er with
   |error k=>
    rw[ha]at h2
    obtain⟨rfl,h3⟩:=h2
    rw[dF h3]
    exact⟨_,_,rfl,rfl,h3⟩
   |ok s=>
    rw[ha]at h2
    obtain⟨rfl,rfl⟩:=h2
    exact⟨_,_,rfl,rfl,rfl⟩
theorem qb3 {α:Type}{o:Option α}(h:o.isSome=true):∃x,o=some x:=Option.isSome_iff_exists.1 h
theorem qd9 {α:Type}{o:Option α}(h:o.isSome=false):o=none:=by cases o<;>simp at h ⊢
theorem qbe {k:List UInt8}{a c:Nat}(hk:e.kind=k)(hf:qbb k=some (a,c))(hc:kf e.er=0):(e.names.getD []).length=a∧(e.values.getD []).length=c:=by
 obtain⟨_,f,h1,h2,h3⟩:=checkE_names hc
 rw[show e.er.kind=k from hk,hf]at h1
 cases h1
 exact⟨h2,h3⟩
theorem qd7 {α:Type}{l:List α}(h:l.length=1):∃a,l=[a]:=List.length_eq_one_iff.1 h
theorem qc0 {α:Type}{l:List α}(h:l.length=2):∃a b,l=[a,b]:=by
 match l,h with
 | [a,b],_=>exact⟨a,b,rfl⟩
theorem jlm {α:Type}{l:List α}(h:l.length=3):∃a b c,l=[a,b,c]:=by
 match l,h with
 | [a,b,c],_=>exact⟨a,b,c,rfl⟩
theorem qi4 {r:qv}{n:List UInt8}:qa7 r 45 n=true:=rfl
theorem rl {r:qv}{n:List UInt8}:qa7 r 108 n=(qaj r n).isSome:=rfl
theorem rp {r:qv}{n:List UInt8}:qa7 r 112 n=(qak r n).isSome:=rfl
theorem ru {r:qv}{n:List UInt8}:qa7 r 117 n=(qab r n).isSome:=rfl
theorem jn9 (b:GB r)(hk:e.kind=qe2)(hc:kf e.er=0):qcv (f121 r e) (after (j8 .i64) r.er e.er):=by
 obtain⟨h1,h2⟩:=qbe hk (show qbb qe2=some (2,2)from rfl) hc
 obtain⟨n0,n1,hn⟩:=qc0 h1
 obtain⟨v0,v1,hv⟩:=qc0 h2
 refine qdd (K:=true) hv (by have:=ql8 (a:=45) (c:=45) b (by rw[hk];rfl) rfl rfl hn;simpa[qi4]using this) (fun h=>by cases h) (fun _=>?_)
 rw[hk]
 exact a105 b hk hn hv
theorem q7f (b:GB r)(hk:e.kind=qbs)(hc:kf e.er=0):qcv (f121 r e) (after (j8 .i64) r.er e.er):=by
 obtain⟨h1,h2⟩:=qbe hk (show qbb qbs=some (1,1)from rfl) hc
 obtain⟨n0,hn⟩:=qd7 h1
 obtain⟨v0,hv⟩:=qd7 h2
 refine qdd (K:=true) hv (by have:=qmn (a:=45) b (by rw[hk];rfl) rfl hn;simpa[qi4]using this) (fun h=>by cases h) (fun _=>?_)
 rw[hk]
 exact zbi b hk hn hv
theorem ji6 (b:GB r)(hk:e.kind=qdn)(hc:kf e.er=0):qcv (f121 r e) (after (j8 .i64) r.er e.er):=by
 obtain⟨h1,h2⟩:=qbe hk (show qbb qdn=some (2,2)from rfl) hc
 obtain⟨n0,n1,hn⟩:=qc0 h1
 obtain⟨v0,v1,hv⟩:=qc0 h2
 refine qdd (K:=(qak r.er n0).isSome) hv (by have:=ql8 (a:=112) (c:=45) b (by rw[hk];rfl) rfl rfl hn;rw[show(qa7 r.er 112 n0&&qa7 r.er 45 n1)=((qak r.er n0).isSome)from by simp only[qi4,rl,rp,ru,Bool.true_and,Bool.and_true]]at this;exact this) (fun h=>?_) (fun h=>?_)
 ·have h:=qd9 h
  unfold yf qcs
  rw[show e.er.kind=qdn from hk,if_neg (by decide),if_pos (by decide),nm0 hn,h]
 ·obtain⟨k,hp⟩:=qb3 h
  rw[hk]
  exact j6q b hk hn hv hp
theorem jg8 (b:GB r)(hk:e.kind=qd4)(hc:kf e.er=0):qcv (f121 r e) (after (j8 .i64) r.er e.er):=by
 obtain⟨h1,h2⟩:=qbe hk (show qbb qd4=some (2,3)from rfl) hc
 obtain⟨n0,n1,hn⟩:=qc0 h1
 obtain⟨v0,v1,v2,hv⟩:=jlm h2
 refine qdd (K:=(qak r.er n0).isSome) hv (by have:=ql8 (a:=112) (c:=45) b (by rw[hk];rfl) rfl rfl hn;rw[show(qa7 r.er 112 n0&&qa7 r.er 45 n1)=((qak r.er n0).isSome)from by simp only[qi4,rl,rp,ru,Bool.true_and,Bool.and_true]]at this;exact this) (fun h=>?_) (fun h=>?_)
 ·have h:=qd9 h
  unfold yf qcs
  rw[show e.er.kind=qd4 from hk,if_neg (by decide),if_pos (by decide),nm0 hn,h]
 ·obtain⟨k,hp⟩:=qb3 h
  rw[hk]
  exact j7r b hk hn hv hp
theorem jc5 (b:GB r)(hk:e.kind=qeb)(hc:kf e.er=0):qcv (f121 r e) (after (j8 .i64) r.er e.er):=by
 obtain⟨h1,h2⟩:=qbe hk (show qbb qeb=some (1,1)from rfl) hc
 obtain⟨n0,hn⟩:=qd7 h1
 obtain⟨v0,hv⟩:=qd7 h2
 refine qdd (K:=(qak r.er n0).isSome) hv (by have:=qmn (a:=112)  b (by rw[hk];rfl) rfl hn;rw[show(qa7 r.er 112 n0)=((qak r.er n0).isSome)from by simp only[qi4,rl,rp,ru,Bool.true_and,Bool.and_true]]at this;exact this) (fun h=>?_) (fun h=>?_)
 ·have h:=qd9 h
  unfold yf qcs
  rw[show e.er.kind=qeb from hk,if_neg (by decide),if_pos (by decide),nm0 hn,h]
 ·obtain⟨k,hp⟩:=qb3 h
  rw[hk]
  exact a109 b hk hn hv hp
theorem jdr (b:GB r)(hk:e.kind=qdy)(hc:kf e.er=0):qcv (f121 r e) (after (j8 .i64) r.er e.er):=by
 obtain⟨h1,h2⟩:=qbe hk (show qbb qdy=some (2,1)from rfl) hc
 obtain⟨n0,n1,hn⟩:=qc0 h1
 obtain⟨v0,hv⟩:=qd7 h2
 refine qdd (K:=(qak r.er n1).isSome) hv (by have:=ql8 (a:=45) (c:=112) b (by rw[hk];rfl) rfl rfl hn;rw[show(qa7 r.er 45 n0&&qa7 r.er 112 n1)=((qak r.er n1).isSome)from by simp only[qi4,rl,rp,ru,Bool.true_and,Bool.and_true]]at this;exact this) (fun h=>?_) (fun h=>?_)
 ·have h:=qd9 h
  unfold yf qht
  rw[show e.er.kind=qdy from hk,if_pos (by decide),if_neg (by decide),if_neg (by decide),nm1 hn]
  unfold qdm
  rw[h];rfl
 ·obtain⟨k,hp⟩:=qb3 h
  rw[hk]
  exact j8d b hk hn hv hp
theorem jml (b:GB r)(w:WF r.er)(hk:e.kind=qe4)(hc:kf e.er=0):qcv (f121 r e) (after (j8 .i64) r.er e.er):=by
 obtain⟨h1,h2⟩:=qbe hk (show qbb qe4=some (2,2)from rfl) hc
 obtain⟨n0,n1,hn⟩:=qc0 h1
 obtain⟨v0,v1,hv⟩:=qc0 h2
 refine qdd (K:=(qab r.er n0).isSome&&(qaj r.er n1).isSome) hv (by have:=ql8 (a:=117) (c:=108) b (by rw[hk];rfl) rfl rfl hn;rw[show(qa7 r.er 117 n0&&qa7 r.er 108 n1)=((qab r.er n0).isSome&&(qaj r.er n1).isSome)from by simp only[qi4,rl,rp,ru,Bool.true_and,Bool.and_true]]at this;exact this) (fun h=>?_) (fun h=>?_)
 ·cases h1:qab r.er n0 with
  |none=>
   rw[qbr hk (by decide) (by decide),if_neg (by decide)]
   unfold qf0
   rw[nm0 hn,h1]
  |some k=>
   rw[h1]at h
   have h:=qd9 (show(qaj r.er n1).isSome=false from h)
   obtain⟨u,g1,_,g3⟩:=qgx h1
   rw[qbr hk (by decide) (by decide),if_neg (by decide),onU (nm0 hn) h1 g3,if_pos hk]
   unfold qrh
   rw[nm1 hn,h]
 ·rw[Bool.and_eq_true]at h
  obtain⟨k,hp⟩:=qb3 h.1
  obtain⟨j,hq⟩:=qb3 h.2
  rw[hk]
  exact j76 b w hk hn hv hp hq
theorem q7o (b:GB r)(w:WF r.er)(hk:e.kind=qci)(hc:kf e.er=0):qcv (f121 r e) (after (j8 .i64) r.er e.er):=by
 obtain⟨h1,h2⟩:=qbe hk (show qbb qci=some (2,2)from rfl) hc
 obtain⟨n0,n1,hn⟩:=qc0 h1
 obtain⟨v0,v1,hv⟩:=qc0 h2
 refine qdd (K:=(qab r.er n0).isSome) hv (by have:=ql8 (a:=117) (c:=45) b (by rw[hk];rfl) rfl rfl hn;rw[show(qa7 r.er 117 n0&&qa7 r.er 45 n1)=((qab r.er n0).isSome)from by simp only[qi4,rl,rp,ru,Bool.true_and,Bool.and_true]]at this;exact this) (fun h=>?_) (fun h=>?_)
 ·have h:=qd9 h
  rw[qbr hk (by decide) (by decide),if_neg (by decide)]
  unfold qf0
  rw[nm0 hn,h]
 ·obtain⟨k,hp⟩:=qb3 h
  rw[hk]
  exact j6b b w hk hn hv hp
theorem jby (b:GB r)(w:WF r.er)(hk:e.kind=qdk)(hc:kf e.er=0):qcv (f121 r e) (after (j8 .i64) r.er e.er):=by
 obtain⟨h1,h2⟩:=qbe hk (show qbb qdk=some (1,1)from rfl) hc
 obtain⟨n0,hn⟩:=qd7 h1
 obtain⟨v0,hv⟩:=qd7 h2
 refine qdd (K:=(qab r.er n0).isSome) hv (by have:=qmn (a:=117)  b (by rw[hk];rfl) rfl hn;rw[show(qa7 r.er 117 n0)=((qab r.er n0).isSome)from by simp only[qi4,rl,rp,ru,Bool.true_and,Bool.and_true]]at this;exact this) (fun h=>?_) (fun h=>?_)
 ·have h:=qd9 h
  rw[qbr hk (by decide) (by decide),if_neg (by decide)]
  unfold qf0
  rw[nm0 hn,h]
 ·obtain⟨k,hp⟩:=qb3 h
  rw[hk]
  exact j30 b w hk hn hv hp
theorem jhq (b:GB r)(hk:e.kind=qd1)(hc:kf e.er=0):qcv (f121 r e) (after (j8 .i64) r.er e.er):=by
 obtain⟨h1,h2⟩:=qbe hk (show qbb qd1=some (2,1)from rfl) hc
 obtain⟨n0,n1,hn⟩:=qc0 h1
 obtain⟨v0,hv⟩:=qd7 h2
 refine qdd (K:=(qab r.er n0).isSome&&(qab r.er n1).isSome) hv (by have:=ql8 (a:=117) (c:=117) b (by rw[hk];rfl) rfl rfl hn;rw[show(qa7 r.er 117 n0&&qa7 r.er 117 n1)=((qab r.er n0).isSome&&(qab r.er n1).isSome)from by simp only[qi4,rl,rp,ru,Bool.true_and,Bool.and_true]]at this;exact this) (fun h=>?_) (fun h=>?_)
 ·cases h1:qab r.er n0 with
  |none=>
   rw[qbr hk (by decide) (by decide),if_neg (by decide)]
   unfold qf0
   rw[nm0 hn,h1]
  |some k=>
   rw[h1]at h
   have h:=qd9 (show(qab r.er n1).isSome=false from h)
   obtain⟨u,g1,_,g3⟩:=qgx h1
   rw[qbr hk (by decide) (by decide),if_neg (by decide),onU (nm0 hn) h1 g3,if_neg (by rw[hk];decide),if_pos hk]
   unfold qmm
   rw[nm1 hn,h]
 ·rw[Bool.and_eq_true]at h
  obtain⟨k,hp⟩:=qb3 h.1
  obtain⟨j,hq⟩:=qb3 h.2
  rw[hk]
  exact za3 b hk hn hv hp hq
theorem jg7 (b:GB r)(hk:e.kind=qen)(hc:kf e.er=0):qcv (f121 r e) (after (j8 .i64) r.er e.er):=by
 obtain⟨h1,h2⟩:=qbe hk (show qbb qen=some (1,1)from rfl) hc
 obtain⟨n0,hn⟩:=qd7 h1
 obtain⟨v0,hv⟩:=qd7 h2
 refine qdd (K:=(qaj r.er n0).isSome) hv (by have:=qmn (a:=108)  b (by rw[hk];rfl) rfl hn;rw[show(qa7 r.er 108 n0)=((qaj r.er n0).isSome)from by simp only[qi4,rl,rp,ru,Bool.true_and,Bool.and_true]]at this;exact this) (fun h=>?_) (fun h=>?_)
 ·have h:=qd9 h
  rw[qbr hk (by decide) (by decide),if_pos (by decide)]
  unfold qnq
  rw[nm0 hn,h]
 ·obtain⟨k,hp⟩:=qb3 h
  rw[hk]
  exact j4q b hk hn hv hp
theorem jg9 (b:GB r)(hk:e.kind=qgs)(hc:kf e.er=0):qcv (f121 r e) (after (j8 .i64) r.er e.er):=by
 obtain⟨h1,h2⟩:=qbe hk (show qbb qgs=some (1,1)from rfl) hc
 obtain⟨n0,hn⟩:=qd7 h1
 obtain⟨v0,hv⟩:=qd7 h2
 refine qdd (K:=(qaj r.er n0).isSome) hv (by have:=qmn (a:=108)  b (by rw[hk];rfl) rfl hn;rw[show(qa7 r.er 108 n0)=((qaj r.er n0).isSome)from by simp only[qi4,rl,rp,ru,Bool.true_and,Bool.and_true]]at this;exact this) (fun h=>?_) (fun h=>?_)
 ·have h:=qd9 h
  rw[qbr hk (by decide) (by decide),if_pos (by decide)]
  unfold qnq
  rw[nm0 hn,h]
 ·obtain⟨k,hp⟩:=qb3 h
  rw[hk]
  exact j8h b hk hn hv hp
theorem jiz (b:GB r)(w:WF r.er)(hk:e.kind=qco)(hc:kf e.er=0):qcv (f121 r e) (after (j8 .i64) r.er e.er):=by
 obtain⟨h1,h2⟩:=qbe hk (show qbb qco=some (1,1)from rfl) hc
 obtain⟨n0,hn⟩:=qd7 h1
 obtain⟨v0,hv⟩:=qd7 h2
 refine qdd (K:=(qab r.er n0).isSome) hv (by have:=qmn (a:=117)  b (by rw[hk];rfl) rfl hn;rw[show(qa7 r.er 117 n0)=((qab r.er n0).isSome)from by simp only[qi4,rl,rp,ru,Bool.true_and,Bool.and_true]]at this;exact this) (fun h=>?_) (fun h=>?_)
 ·have h:=qd9 h
  rw[qbr hk (by decide) (by decide),if_neg (by decide)]
  unfold qf0
  rw[nm0 hn,h]
 ·obtain⟨k,hp⟩:=qb3 h
  rw[hk]
  exact j6s b w hk hn hv hp
theorem q5l (b:GB r)(hk:e.kind=qep)(hc:kf e.er=0):qcv (f121 r e) (after (j8 .i64) r.er e.er):=by
 obtain⟨h1,h2⟩:=qbe hk (show qbb qep=some (1,1)from rfl) hc
 obtain⟨n0,hn⟩:=qd7 h1
 obtain⟨v0,hv⟩:=qd7 h2
 refine qdd (K:=(qab r.er n0).isSome) hv (by have:=qmn (a:=117)  b (by rw[hk];rfl) rfl hn;rw[show(qa7 r.er 117 n0)=((qab r.er n0).isSome)from by simp only[qi4,rl,rp,ru,Bool.true_and,Bool.and_true]]at this;exact this) (fun h=>?_) (fun h=>?_)
 ·have h:=qd9 h
  rw[qbr hk (by decide) (by decide),if_neg (by decide)]
  unfold qf0
  rw[nm0 hn,h]
 ·obtain⟨k,hp⟩:=qb3 h
  rw[hk]
  exact zao b hk hn hv hp
theorem q5x (b:GB r)(w:WF r.er)(hc:kf e.er=0)(hu:e.kind≠qfg):qcv (f121 r e) (after (j8 .i64) r.er e.er):=by
 obtain⟨_,f,h1,_,_⟩:=checkE_names hc
 have hm:e.kind∈k_forms.map (·.1):=by
  unfold qbb at h1
  cases hf:k_forms.find? (fun x=>decide (x.1=e.er.kind))with
  |none=>rw[hf]at h1;cases h1
  |some x=>
   have h2:=List.find?_some hf
   have h3:=List.mem_of_find?_eq_some hf
   rw[show e.kind=x.1 from(of_decide_eq_true h2).symm]
   exact List.mem_map_of_mem h3
 simp only[k_forms,List.map_cons,List.map_nil,List.mem_cons,List.mem_singleton,List.not_mem_nil,or_false]at hm
 rcases hm with h|h|h|h|h|h|h|h|h|h|h|h|h|h|h
 ·exact jn9 b h hc
 ·exact q7f b h hc
 ·exact ji6 b h hc
 ·exact jg8 b h hc
 ·exact jc5 b h hc
 ·exact jdr b h hc
 ·exact jml b w h hc
 ·exact q7o b w h hc
 ·exact jby b w h hc
 ·exact jhq b h hc
 ·exact jg7 b h hc
 ·exact jg9 b h hc
 ·exact jiz b w h hc
 ·exact q5l b h hc
 ·exact absurd h hu
end Go.Z
