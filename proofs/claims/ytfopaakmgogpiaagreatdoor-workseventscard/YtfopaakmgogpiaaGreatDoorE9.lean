/- Chapter 10, plain. -/
import Derived.Test.YtfopaakmgogpiaaGreatDoorE6
set_option linter.unusedVariables false
set_option linter.unusedSimpArgs false
set_option maxRecDepth 100000
set_option maxHeartbeats 4000000
open Bool renaming true_and→I,and_true→Ef,and_eq_true→E4,true→E6
open Option renaming some→En
open List renaming length_cons→E0,length_nil→E1,length_singleton→E3
namespace Go.Z
open Go Go.Abs Go.W
variable {r:qc}{e:ql}
def D9 (r:qu)(c:Int)(n:List UInt8):Bool:=if c=108 then(ku r n).isSome else if c=112 then(kq r n).isSome else if c=117 then(kl r n).isSome else E6
theorem Vr (b:GB r){c:Int}{n:List UInt8}:f202 r c n=En (D9 r.er c n):=by
 unfold f202 D9
 by_cases h1:c=108
 ·simp only[h1,decide_true,cT,if_true,DU (yf b.L),jw,vK]
 ·by_cases h2:c=112
  ·simp only[h1,h2,decide_true,decide_false,cT,cond_false,if_true,if_false,uI (yf b.P),jw,vK];rfl
  ·by_cases h3:c=117
   ·simp only[h1,h2,h3,decide_true,decide_false,cT,cond_false,if_true,if_false,xC (yf b.U),jw,vK];rfl
   ·simp only[h1,h2,h3,decide_false,cond_false,if_false]
def eL (r:qu)(c:UInt8)(n:List UInt8):Bool:=decide ((c.toNat:Int)=45)||D9 r (c.toNat:Int) n
theorem AQ (b:GB r){a:UInt8}{n0:List UInt8}{t:List (List UInt8)}(hr:yu e.kind=[a])(hd:zg [a] 0=(a.toNat,1))(hn:e.names.getD []=n0::t):
  ∃d,bf (Ea r e) none=En (if eL r.er a n0 then .inr d else .inl d):=by
 have z:AR r e=En (if eL r.er a n0 then .inl (En 1)else .inr (.inl 1)):=by
  unfold AR eL
  simp only[hr,hd,jw,gF hn,Vr b]
  simp only[E3,Nat.lt_irrefl,show decide (0<1)=E6 from rfl,cT]
  cases decide ((a.toNat:Int)=45)<;>cases D9 r.er (a.toNat:Int) n0<;>rfl
 cases hk:eL r.er a n0 with
 |true=>
  rw[hk]at z
  refine⟨1,?_⟩
  rw[oo (s':=En 1) z]
  refine iT (d:=(Sum.inr 1:Nat⊕Nat)) ?_
  show vO r e 1=_
  unfold vO
  simp only[hr,E3]
  rfl
 |false=>
  rw[hk]at z
  exact⟨1,iT z⟩
theorem AU (b:GB r){a c:UInt8}{n0 n1:List UInt8}{t:List (List UInt8)}(hr:yu e.kind=[a,c])(hd:zg [a,c] 0=(a.toNat,1))(hd1:zg [a,c] 1=(c.toNat,1))(hn:e.names.getD []=n0::n1::t):
  ∃d,bf (Ea r e) none=En (if eL r.er a n0&&eL r.er c n1 then .inr d else .inl d):=by
 have z:AR r e=En (if eL r.er a n0 then .inl (En 1)else .inr (.inl 1)):=by
  unfold AR eL
  simp only[hr,hd,jw,gF hn,Vr b]
  simp only[E0,E1,show decide (0<0+1+1)=E6 from rfl,cT]
  cases decide ((a.toNat:Int)=45)<;>cases D9 r.er (a.toNat:Int) n0<;>rfl
 have y:vO r e 1=En (if eL r.er c n1 then .inl (En 2)else .inr (.inl 2)):=by
  unfold vO eL
  simp only[hr,hd1,jw,show((1:Nat):Int)=1 from rfl,gj hn,Vr b]
  simp only[E0,E1,show decide (1<0+1+1)=E6 from rfl,cT]
  cases decide ((c.toNat:Int)=45)<;>cases D9 r.er (c.toNat:Int) n1<;>rfl
 cases hk:eL r.er a n0 with
 |false=>
  rw[hk]at z
  exact⟨1,iT z⟩
 |true=>
  rw[hk]at z
  cases cY:eL r.er c n1 with
  |false=>
   rw[cY]at y
   refine⟨2,?_⟩
   rw[oo (s':=En 1) z]
   exact iT (d:=(Sum.inl 2:Nat⊕Nat)) y
  |true=>
   rw[cY]at y
   refine⟨2,?_⟩
   rw[oo (s':=En 1) z,oo (s':=En 2) y]
   refine iT (d:=(Sum.inr 2:Nat⊕Nat)) ?_
   show vO r e 2=_
   unfold vO
   simp only[hr,E0,E1]
   rfl
def gk (x:Option (qc×Int))(y:oz):Prop:=∃r' c,x=En (r',c)∧match y with
 | .error k=>c=k∧k≠0
 | .ok s=>c=0∧r'.er=s
theorem nR {v0:Int}{t:List Int}{K:Bool}(hv:e.values.getD []=v0::t)(hl:∃d,bf (Ea r e) none=En (if K then .inr d else .inl d))(hK:K=false→apply (j6 .i64) r.er e.er=.error 10)(hA:K=E6→mX (eO (Hj e.kind) r e) (apply (j6 .i64) r.er e.er)):
  gk (f121 r e) (after (j6 .i64) r.er e.er):=by
 unfold f121 after
 rw[gF hv,vl0 hv]
 simp only[jw]
 by_cases h:v0<r.day
 ·rw[dT h,if_pos (show v0<r.er.day from h)]
  exact⟨_,_,rfl,rfl,by decide⟩
 ·rw[dF h,if_neg (show ¬v0<r.er.day from h)]
  obtain⟨d,hd⟩:=hl
  rw[hd]
  cases K with
  |false=>
   rw[hK rfl]
   exact⟨_,_,rfl,rfl,by decide⟩
  |true=>
   obtain⟨c,r',h1,h2⟩:=hA rfl
   simp only[if_true,cond_false]
   rw[h1]
   simp only[]
   cases ha:apply (j6 .i64) r.er e.er with
   |error k=>
    rw[ha]at h2
    obtain⟨rfl,h3⟩:=h2
    rw[dF h3]
    exact⟨_,_,rfl,rfl,h3⟩
   |ok s=>
    rw[ha]at h2
    obtain⟨rfl,rfl⟩:=h2
    exact⟨_,_,rfl,rfl,rfl⟩
theorem nS {α:Type}{o:Option α}(h:o.isSome=E6):∃x,o=En x:=Option.isSome_iff_exists.1 h
theorem pw {α:Type}{o:Option α}(h:o.isSome=false):o=none:=by cases o<;>simp at h ⊢
theorem eY {k:List UInt8}{a c:Nat}(hk:e.kind=k)(hf:fS k=En (a,c))(hc:yt e.er=0):(e.names.getD []).length=a∧(e.values.getD []).length=c:=by
 obtain⟨_,f,h1,h2,h3⟩:=Vs hc
 rw[show e.er.kind=k from hk,hf]at h1
 cases h1
 exact⟨h2,h3⟩
theorem iH {α:Type}{l:List α}(h:l.length=1):∃a,l=[a]:=List.length_eq_one_iff.1 h
theorem gm {α:Type}{l:List α}(h:l.length=2):∃a b,l=[a,b]:=by
 match l,h with
 | [a,b],_=>exact⟨a,b,rfl⟩
theorem jqv {α:Type}{l:List α}(h:l.length=3):∃a b c,l=[a,b,c]:=by
 match l,h with
 | [a,b,c],_=>exact⟨a,b,c,rfl⟩
theorem nT {r:qu}{n:List UInt8}:eL r 45 n=E6:=rfl
theorem rl {r:qu}{n:List UInt8}:eL r 108 n=(ku r n).isSome:=rfl
theorem rp {r:qu}{n:List UInt8}:eL r 112 n=(kq r n).isSome:=rfl
theorem ru {r:qu}{n:List UInt8}:eL r 117 n=(kl r n).isSome:=rfl
theorem jur (b:GB r)(hk:e.kind=l5)(hc:yt e.er=0):gk (f121 r e) (after (j6 .i64) r.er e.er):=by
 obtain⟨h1,h2⟩:=eY hk (show fS l5=En (2,2)from rfl) hc
 obtain⟨n0,n1,hn⟩:=gm h1
 obtain⟨v0,v1,hv⟩:=gm h2
 refine nR (K:=true) hv (by have:=AU (a:=45) (c:=45) b (by rw[hk];rfl) rfl rfl hn;simpa[nT]using this) (fun h=>by cases h) (fun _=>?_)
 rw[hk]
 exact a105 b hk hn hv
theorem q89 (b:GB r)(hk:e.kind=mR)(hc:yt e.er=0):gk (f121 r e) (after (j6 .i64) r.er e.er):=by
 obtain⟨h1,h2⟩:=eY hk (show fS mR=En (1,1)from rfl) hc
 obtain⟨n0,hn⟩:=iH h1
 obtain⟨v0,hv⟩:=iH h2
 refine nR (K:=true) hv (by have:=AQ (a:=45) b (by rw[hk];rfl) rfl hn;simpa[nT]using this) (fun h=>by cases h) (fun _=>?_)
 rw[hk]
 exact zfs b hk hn hv
theorem jm5 (b:GB r)(hk:e.kind=l6)(hc:yt e.er=0):gk (f121 r e) (after (j6 .i64) r.er e.er):=by
 obtain⟨h1,h2⟩:=eY hk (show fS l6=En (2,2)from rfl) hc
 obtain⟨n0,n1,hn⟩:=gm h1
 obtain⟨v0,v1,hv⟩:=gm h2
 refine nR (K:=(kq r.er n0).isSome) hv (by have:=AU (a:=112) (c:=45) b (by rw[hk];rfl) rfl rfl hn;rw[show(eL r.er 112 n0&&eL r.er 45 n1)=((kq r.er n0).isSome)from by simp only[nT,rl,rp,ru,I,Ef]]at this;exact this) (fun h=>?_) (fun h=>?_)
 ·have h:=pw h
  unfold apply oB
  rw[show e.er.kind=l6 from hk,if_neg (by decide),if_pos (by decide),eI hn,h]
 ·obtain⟨k,hp⟩:=nS h
  rw[hk]
  exact zem b hk hn hv hp
theorem jmi (b:GB r)(hk:e.kind=mS)(hc:yt e.er=0):gk (f121 r e) (after (j6 .i64) r.er e.er):=by
 obtain⟨h1,h2⟩:=eY hk (show fS mS=En (2,3)from rfl) hc
 obtain⟨n0,n1,hn⟩:=gm h1
 obtain⟨v0,v1,v2,hv⟩:=jqv h2
 refine nR (K:=(kq r.er n0).isSome) hv (by have:=AU (a:=112) (c:=45) b (by rw[hk];rfl) rfl rfl hn;rw[show(eL r.er 112 n0&&eL r.er 45 n1)=((kq r.er n0).isSome)from by simp only[nT,rl,rp,ru,I,Ef]]at this;exact this) (fun h=>?_) (fun h=>?_)
 ·have h:=pw h
  unfold apply oB
  rw[show e.er.kind=mS from hk,if_neg (by decide),if_pos (by decide),eI hn,h]
 ·obtain⟨k,hp⟩:=nS h
  rw[hk]
  exact ze9 b hk hn hv hp
theorem jdz (b:GB r)(hk:e.kind=po)(hc:yt e.er=0):gk (f121 r e) (after (j6 .i64) r.er e.er):=by
 obtain⟨h1,h2⟩:=eY hk (show fS po=En (1,1)from rfl) hc
 obtain⟨n0,hn⟩:=iH h1
 obtain⟨v0,hv⟩:=iH h2
 refine nR (K:=(kq r.er n0).isSome) hv (by have:=AQ (a:=112)  b (by rw[hk];rfl) rfl hn;rw[show(eL r.er 112 n0)=((kq r.er n0).isSome)from by simp only[nT,rl,rp,ru,I,Ef]]at this;exact this) (fun h=>?_) (fun h=>?_)
 ·have h:=pw h
  unfold apply oB
  rw[show e.er.kind=po from hk,if_neg (by decide),if_pos (by decide),eI hn,h]
 ·obtain⟨k,hp⟩:=nS h
  rw[hk]
  exact a109 b hk hn hv hp
theorem jff (b:GB r)(hk:e.kind=oq)(hc:yt e.er=0):gk (f121 r e) (after (j6 .i64) r.er e.er):=by
 obtain⟨h1,h2⟩:=eY hk (show fS oq=En (2,1)from rfl) hc
 obtain⟨n0,n1,hn⟩:=gm h1
 obtain⟨v0,hv⟩:=iH h2
 refine nR (K:=(kq r.er n1).isSome) hv (by have:=AU (a:=45) (c:=112) b (by rw[hk];rfl) rfl rfl hn;rw[show(eL r.er 45 n0&&eL r.er 112 n1)=((kq r.er n1).isSome)from by simp only[nT,rl,rp,ru,I,Ef]]at this;exact this) (fun h=>?_) (fun h=>?_)
 ·have h:=pw h
  unfold apply oA
  rw[show e.er.kind=oq from hk,if_pos (by decide),if_neg (by decide),if_neg (by decide),lI hn]
  unfold hM
  rw[h];rfl
 ·obtain⟨k,hp⟩:=nS h
  rw[hk]
  exact zey b hk hn hv hp
theorem jt0 (b:GB r)(w:WF r.er)(hk:e.kind=l7)(hc:yt e.er=0):gk (f121 r e) (after (j6 .i64) r.er e.er):=by
 obtain⟨h1,h2⟩:=eY hk (show fS l7=En (2,2)from rfl) hc
 obtain⟨n0,n1,hn⟩:=gm h1
 obtain⟨v0,v1,hv⟩:=gm h2
 refine nR (K:=(kl r.er n0).isSome&&(ku r.er n1).isSome) hv (by have:=AU (a:=117) (c:=108) b (by rw[hk];rfl) rfl rfl hn;rw[show(eL r.er 117 n0&&eL r.er 108 n1)=((kl r.er n0).isSome&&(ku r.er n1).isSome)from by simp only[nT,rl,rp,ru,I,Ef]]at this;exact this) (fun h=>?_) (fun h=>?_)
 ·cases h1:kl r.er n0 with
  |none=>
   rw[jL hk (by decide) (by decide),if_neg (by decide)]
   unfold oC
   rw[eI hn,h1]
  |some k=>
   rw[h1]at h
   have h:=pw (show(ku r.er n1).isSome=false from h)
   obtain⟨u,g1,_,g3⟩:=qQ h1
   rw[jL hk (by decide) (by decide),if_neg (by decide),vN (eI hn) h1 g3,if_pos hk]
   unfold xM
   rw[lI hn,h]
 ·rw[E4]at h
  obtain⟨k,hp⟩:=nS h.1
  obtain⟨j,hq⟩:=nS h.2
  rw[hk]
  exact zgj b w hk hn hv hp hq
theorem q82 (b:GB r)(w:WF r.er)(hk:e.kind=ot)(hc:yt e.er=0):gk (f121 r e) (after (j6 .i64) r.er e.er):=by
 obtain⟨h1,h2⟩:=eY hk (show fS ot=En (2,2)from rfl) hc
 obtain⟨n0,n1,hn⟩:=gm h1
 obtain⟨v0,v1,hv⟩:=gm h2
 refine nR (K:=(kl r.er n0).isSome) hv (by have:=AU (a:=117) (c:=45) b (by rw[hk];rfl) rfl rfl hn;rw[show(eL r.er 117 n0&&eL r.er 45 n1)=((kl r.er n0).isSome)from by simp only[nT,rl,rp,ru,I,Ef]]at this;exact this) (fun h=>?_) (fun h=>?_)
 ·have h:=pw h
  rw[jL hk (by decide) (by decide),if_neg (by decide)]
  unfold oC
  rw[eI hn,h]
 ·obtain⟨k,hp⟩:=nS h
  rw[hk]
  exact zh3 b w hk hn hv hp
theorem jb0 (b:GB r)(w:WF r.er)(hk:e.kind=pq)(hc:yt e.er=0):gk (f121 r e) (after (j6 .i64) r.er e.er):=by
 obtain⟨h1,h2⟩:=eY hk (show fS pq=En (1,1)from rfl) hc
 obtain⟨n0,hn⟩:=iH h1
 obtain⟨v0,hv⟩:=iH h2
 refine nR (K:=(kl r.er n0).isSome) hv (by have:=AQ (a:=117)  b (by rw[hk];rfl) rfl hn;rw[show(eL r.er 117 n0)=((kl r.er n0).isSome)from by simp only[nT,rl,rp,ru,I,Ef]]at this;exact this) (fun h=>?_) (fun h=>?_)
 ·have h:=pw h
  rw[jL hk (by decide) (by decide),if_neg (by decide)]
  unfold oC
  rw[eI hn,h]
 ·obtain⟨k,hp⟩:=nS h
  rw[hk]
  exact zbt b w hk hn hv hp
theorem jk0 (b:GB r)(hk:e.kind=mT)(hc:yt e.er=0):gk (f121 r e) (after (j6 .i64) r.er e.er):=by
 obtain⟨h1,h2⟩:=eY hk (show fS mT=En (2,1)from rfl) hc
 obtain⟨n0,n1,hn⟩:=gm h1
 obtain⟨v0,hv⟩:=iH h2
 refine nR (K:=(kl r.er n0).isSome&&(kl r.er n1).isSome) hv (by have:=AU (a:=117) (c:=117) b (by rw[hk];rfl) rfl rfl hn;rw[show(eL r.er 117 n0&&eL r.er 117 n1)=((kl r.er n0).isSome&&(kl r.er n1).isSome)from by simp only[nT,rl,rp,ru,I,Ef]]at this;exact this) (fun h=>?_) (fun h=>?_)
 ·cases h1:kl r.er n0 with
  |none=>
   rw[jL hk (by decide) (by decide),if_neg (by decide)]
   unfold oC
   rw[eI hn,h1]
  |some k=>
   rw[h1]at h
   have h:=pw (show(kl r.er n1).isSome=false from h)
   obtain⟨u,g1,_,g3⟩:=qQ h1
   rw[jL hk (by decide) (by decide),if_neg (by decide),vN (eI hn) h1 g3,if_neg (by rw[hk];decide),if_pos hk]
   unfold xN
   rw[lI hn,h]
 ·rw[E4]at h
  obtain⟨k,hp⟩:=nS h.1
  obtain⟨j,hq⟩:=nS h.2
  rw[hk]
  exact zev b hk hn hv hp hq
theorem jl5 (b:GB r)(hk:e.kind=nM)(hc:yt e.er=0):gk (f121 r e) (after (j6 .i64) r.er e.er):=by
 obtain⟨h1,h2⟩:=eY hk (show fS nM=En (1,1)from rfl) hc
 obtain⟨n0,hn⟩:=iH h1
 obtain⟨v0,hv⟩:=iH h2
 refine nR (K:=(ku r.er n0).isSome) hv (by have:=AQ (a:=108)  b (by rw[hk];rfl) rfl hn;rw[show(eL r.er 108 n0)=((ku r.er n0).isSome)from by simp only[nT,rl,rp,ru,I,Ef]]at this;exact this) (fun h=>?_) (fun h=>?_)
 ·have h:=pw h
  rw[jL hk (by decide) (by decide),if_pos (by decide)]
  unfold vM
  rw[eI hn,h]
 ·obtain⟨k,hp⟩:=nS h
  rw[hk]
  exact zeu b hk hn hv hp
theorem jlf (b:GB r)(hk:e.kind=qO)(hc:yt e.er=0):gk (f121 r e) (after (j6 .i64) r.er e.er):=by
 obtain⟨h1,h2⟩:=eY hk (show fS qO=En (1,1)from rfl) hc
 obtain⟨n0,hn⟩:=iH h1
 obtain⟨v0,hv⟩:=iH h2
 refine nR (K:=(ku r.er n0).isSome) hv (by have:=AQ (a:=108)  b (by rw[hk];rfl) rfl hn;rw[show(eL r.er 108 n0)=((ku r.er n0).isSome)from by simp only[nT,rl,rp,ru,I,Ef]]at this;exact this) (fun h=>?_) (fun h=>?_)
 ·have h:=pw h
  rw[jL hk (by decide) (by decide),if_pos (by decide)]
  unfold vM
  rw[eI hn,h]
 ·obtain⟨k,hp⟩:=nS h
  rw[hk]
  exact zbn b hk hn hv hp
theorem jmz (b:GB r)(w:WF r.er)(hk:e.kind=kE)(hc:yt e.er=0):gk (f121 r e) (after (j6 .i64) r.er e.er):=by
 obtain⟨h1,h2⟩:=eY hk (show fS kE=En (1,1)from rfl) hc
 obtain⟨n0,hn⟩:=iH h1
 obtain⟨v0,hv⟩:=iH h2
 refine nR (K:=(kl r.er n0).isSome) hv (by have:=AQ (a:=117)  b (by rw[hk];rfl) rfl hn;rw[show(eL r.er 117 n0)=((kl r.er n0).isSome)from by simp only[nT,rl,rp,ru,I,Ef]]at this;exact this) (fun h=>?_) (fun h=>?_)
 ·have h:=pw h
  rw[jL hk (by decide) (by decide),if_neg (by decide)]
  unfold oC
  rw[eI hn,h]
 ·obtain⟨k,hp⟩:=nS h
  rw[hk]
  exact zhr b w hk hn hv hp
theorem q55 (b:GB r)(hk:e.kind=xy)(hc:yt e.er=0):gk (f121 r e) (after (j6 .i64) r.er e.er):=by
 obtain⟨h1,h2⟩:=eY hk (show fS xy=En (1,1)from rfl) hc
 obtain⟨n0,hn⟩:=iH h1
 obtain⟨v0,hv⟩:=iH h2
 refine nR (K:=(kl r.er n0).isSome) hv (by have:=AQ (a:=117)  b (by rw[hk];rfl) rfl hn;rw[show(eL r.er 117 n0)=((kl r.er n0).isSome)from by simp only[nT,rl,rp,ru,I,Ef]]at this;exact this) (fun h=>?_) (fun h=>?_)
 ·have h:=pw h
  rw[jL hk (by decide) (by decide),if_neg (by decide)]
  unfold oC
  rw[eI hn,h]
 ·obtain⟨k,hp⟩:=nS h
  rw[hk]
  exact zih b hk hn hv hp
theorem q6v (b:GB r)(w:WF r.er)(hc:yt e.er=0)(hu:e.kind≠ou):gk (f121 r e) (after (j6 .i64) r.er e.er):=by
 obtain⟨_,f,h1,_,_⟩:=Vs hc
 have hm:e.kind∈cX.map (·.1):=by
  unfold fS at h1
  cases hf:cX.find? (fun x=>decide (x.1=e.er.kind))with
  |none=>rw[hf]at h1;cases h1
  |some x=>
   have h2:=List.find?_some hf
   have h3:=List.mem_of_find?_eq_some hf
   rw[show e.kind=x.1 from(of_decide_eq_true h2).symm]
   exact List.mem_map_of_mem h3
 simp only[cX,List.map_cons,List.map_nil,List.mem_cons,List.mem_singleton,List.not_mem_nil,or_false]at hm
 rcases hm with h|h|h|h|h|h|h|h|h|h|h|h|h|h|h
 ·exact jur b h hc
 ·exact q89 b h hc
 ·exact jm5 b h hc
 ·exact jmi b h hc
 ·exact jdz b h hc
 ·exact jff b h hc
 ·exact jt0 b w h hc
 ·exact q82 b w h hc
 ·exact jb0 b w h hc
 ·exact jk0 b h hc
 ·exact jl5 b h hc
 ·exact jlf b h hc
 ·exact jmz b w h hc
 ·exact q55 b h hc
 ·exact absurd h hu
end Go.Z
