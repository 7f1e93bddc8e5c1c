/- Equations of the executor, third part. -/
import Derived.Test.YtnjngdcbkkonnaaGreatDoorAbsJ
set_option linter.unusedVariables false
set_option linter.unusedSimpArgs false
namespace Go.Abs
section
variable {p:qn}{xc:XC}{h0:Nat}{al:Option (List Nat)}{e:Env}{h:zd}{α:Type}
def jl2 {γ δ:Type}(En:γ→qi×qc)(Ex:δ→qi×qc):γ⊕δ→qi×qc
 | .inl s=>En s
 | .inr d=>Ex d
@[simp] theorem j2g {γ δ:Type}{En:γ→qi×qc}{Ex:δ→qi×qc}{s:γ}:jl2 En Ex (.inl s)=En s:=rfl
@[simp] theorem j0i {γ δ:Type}{En:γ→qi×qc}{Ex:δ→qi×qc}{s:δ}:jl2 En Ex (.inr s)=Ex s:=rfl
def qgb {α γ δ:Type}(p:qn)(c:qe)(St:Nat→γ→qc)(g:Nat→γ→α→γ⊕δ)(Ex:δ→qi×qc)(Inv:Nat→γ→Prop)(i:Nat)(s:γ)(x:α):Prop:=
 match g i s x with
 | .inl s'=>Inv (i+1) s'∧∃st',X p c (St i s)=some (.normal,st')∧gc (St i s).heap.length st'=St (i+1) s'
 | .inr d=>X p c (St i s)=some (Ex d)
theorem jbm {c:qe}{n:Nat}{r:qi×qc}(hr:r.1≠.normal):qmw p c n (some r)=some r:=by
 obtain⟨x,st⟩:=r
 cases x with
 |normal=>exact absurd rfl hr
 |ret=>rfl
 |exit id=>rfl
theorem qtn {n:Nat}{st:qc}{h':zd}(hn:n=h.length)(hs:st.heap=h++h')(h1:qa9 n st.env=true)(h2:yt n h=true):gc n st=⟨st.env,h⟩:=by
 obtain⟨ev,hp⟩:=st
 simp only at hs h1
 subst hs hn
 unfold gc
 cases h' with
 |nil=>simp
 |cons b h'=>
  have hle:Nat.ble (h++b::h').length h.length=false:=by
   rw[qbx];simp
  simp only[hle,cF,List.take_left',h1,h2,Bool.and_self,cT]
def qpg (h:zd)(x i:Option qa):Option qm:=match x,i with
 |some (.str s),some j=>(match idx s.length j with
   |some j=>(match s[j]? with
    |some c=>val h (.int .u8 c.toNat)
    |none=>none)
   |none=>none)
 |_,_=>none
@[go_sem] theorem jp6 {x i:qf}:j9 p xc h0 al e h (.strIndex x i)=qpg h (zc e x) (zc e i):=by
 simp only[j9,zn,qpg]
 cases zc e x with
 |none=>rfl
 |some v=>cases v with
  |str s=>cases zc e i<;>rfl
  |_=>cases zc e i<;>rfl
theorem jax {s:List UInt8}{k:IntKind}{i:Nat}{c:UInt8}(hc:s[i]?=some c):qpg h (some (.str s)) (some (.int k (i:Int)))=some ⟨.int .u8 c.toNat,false,none,h⟩:=by
 have hl:i<s.length:=(List.getElem?_eq_some_iff.1 hc).1
 have:idx s.length (.int k (i:Int))=some i:=by rw[qek,qqi hl]
 simp only[qpg,this,hc,val]
@[go_sem] theorem j4g {a b:List UInt8}:k9 .eql (.str a) (.str b)=some (.bool (decide (a=b))):=by
 by_cases hab:a=b<;>simp[k9,qof,hab]
@[go_sem] theorem j4f {a b:List UInt8}:k9 .neq (.str a) (.str b)=some (.bool (!decide (a=b))):=by
 by_cases hab:a=b<;>simp[k9,qof,hab]
def qyz (h0 r:Nat)(h:zd)(x:Option qa):Option qm:=match x with
 |some (.str s)=>qbv (newBox h0 h r (.iter s 0)) (.ptr (h0+r) 0)
 |_=>none
@[go_sem] theorem jo1 {r:Nat}{s:List UInt8}:qyz h0 r h (some (.str s))=qbv (newBox h0 h r (.iter s 0)) (.ptr (h0+r) 0):=rfl
@[go_sem] theorem j1l {r:Nat}{x:qf}:j9 p xc h0 al e h (.srange r x)=qyz h0 r h (zc e x):=by
 simp only[j9,zr,qyz]
 cases zc e x with
 |none=>rfl
 |some v=>cases v with
  |str s=>simp only[qbv];cases newBox h0 h r (.iter s 0)<;>rfl
  |_=>rfl
def qj3 (h:zd)(b:Nat)(x:Option qv):Option qm:=match x with
 |some (.iter s pos)=>bif Nat.blt pos s.length then qbv (yv h b (.iter s (pos+(zk s pos).2))) (.tup [.bool true,.int .i64 pos,.int .i32 (zk s pos).1])else val h (.tup [.bool false])
 |_=>none
theorem jc7 {b pos:Nat}{s:List UInt8}(hp:pos<s.length):qj3 h b (some (.iter s pos))=qbv (yv h b (.iter s (pos+(zk s pos).2))) (.tup [.bool true,.int .i64 pos,.int .i32 (zk s pos).1]):=by
 simp only[qj3,qdb,hp,decide_true,cT]
theorem jau {b pos:Nat}{s:List UInt8}(hp:¬pos<s.length):qj3 h b (some (.iter s pos))=some ⟨.tup [.bool false],false,none,h⟩:=by
 simp only[qj3,qdb,hp,decide_false,cF,val]
def q2c (h0:Nat)(al:Option (List Nat))(h:zd)(x:Option qa):Option qm:=match x with
 |some (.ptr b 0)=>ifR (kg h0 al b) (qj3 h b h[b]?)
 |_=>none
@[go_sem] theorem jtn {b:Nat}:q2c h0 al h (some (.ptr b 0))=ifR (kg h0 al b) (qj3 h b h[b]?):=rfl
@[go_sem] theorem j4m {x:qf}:j9 p xc h0 al e h (.snext x)=q2c h0 al h (zc e x):=by
 simp only[j9,zr,q2c]
 cases zc e x with
 |none=>rfl
 |some v=>cases v with
  |ptr b o=>
   cases o with
   |succ o=>rfl
   |zero=>
    simp only[ifR,qam,qj3,qbv]
    cases kg h0 al b with
    |false=>rfl
    |true=>
     simp only[cT]
     cases h[b]? with
     |none=>rfl
     |some x=>cases x with
      |iter s pos=>
       simp only[]
       cases Nat.blt pos s.length with
       |false=>rfl
       |true=>simp only[cT];cases yv h b (.iter s (pos+(zk s pos).2))<;>rfl
      |_=>rfl
  |_=>rfl
theorem q9l {s:List UInt8}{i:Nat}{c:UInt8}(hc:s[i]?=some c)(hl:c.toNat<128):zk s i=(c.toNat,1):=by
 have hg:(ByteArray.get! ⟨⟨s⟩⟩ (i+0))=c:=by
  obtain⟨h1,h2⟩:=List.getElem?_eq_some_iff.1 hc
  simp[ByteArray.get!,h1,h2]
 simp only[zk,Utf8.decode,hg,hl,if_true]
theorem jca {s:List UInt8}{i:Nat}{c:UInt8}(hc:s[i]?=some c)(hl:¬c.toNat<128):128≤(zk s i).1:=by
 have hg:(ByteArray.get! ⟨⟨s⟩⟩ (i+0))=c:=by
  obtain⟨h1,h2⟩:=List.getElem?_eq_some_iff.1 hc
  simp[ByteArray.get!,h1,h2]
 simp only[zk,Utf8.decode,hg,hl,if_false,Utf8.runeError]
 split
 ·split<;>simp<;>omega
 ·split
  ·split
   ·next hh=>simp only[Bool.and_eq_true,decide_eq_true_eq]at hh;simp only;omega
   ·decide
  ·split
   ·split
    ·next hh=>simp only[Bool.and_eq_true,decide_eq_true_eq]at hh;simp only;omega
    ·decide
   ·decide
def qw7 (h:zd)(zero:qa)(r:Option (Option (Nat×qa))):Option qm:=match r with
 |some (some (_,v))=>val h v
 |some none=>val h zero
 |none=>none
@[go_sem] theorem q69 {z v:qa}{i:Nat}:qw7 h z (some (some (i,v)))=some ⟨v,false,none,h⟩:=rfl
@[go_sem] theorem q7s {z:qa}:qw7 h z (some none)=some ⟨z,false,none,h⟩:=rfl
def qxa (h:zd)(kd:Kd)(z kv:qa)(x:Option qv):Option qm:=match x with
 |some (.map es)=>qw7 h z (y8 kd kv es 0)
 |_=>none
@[go_sem] theorem q9t {kd:Kd}{z kv:qa}{es:List (qa×qa)}:qxa h kd z kv (some (.map es))=qw7 h z (y8 kd kv es 0):=rfl
def qzt (h0:Nat)(al:Option (List Nat))(h:zd)(kd:Kd)(z:qa)(m k:Option qa):Option qm:=match m,k with
 |some (.map b),some kv=>ifR (kg h0 al b) (qxa h kd z kv h[b]?)
 |some .nilmap,some _=>val h z
 |_,_=>none
@[go_sem] theorem jo7 {kd:Kd}{z kv:qa}{b:Nat}:qzt h0 al h kd z (some (.map b)) (some kv)=ifR (kg h0 al b) (qxa h kd z kv h[b]?):=rfl
@[go_sem] theorem j2s {kd:Kd}{z:qa}{m k:qf}:j9 p xc h0 al e h (.lookup kd z false m k)=qzt h0 al h kd z (zc e m) (zc e k):=by
 simp only[j9,qau,qzt]
 cases zc e m with
 |none=>cases zc e k<;>rfl
 |some v=>cases zc e k with
  |none=>cases v<;>rfl
  |some kv=>cases v with
   |map b=>
    simp only[ifR,qam,qxa,qw7]
    cases kg h0 al b with
    |false=>rfl
    |true=>
     simp only[cT]
     cases h[b]? with
     |none=>rfl
     |some x=>cases x with
      |map es=>
       simp only[]
       cases y8 kd kv es 0 with
       |none=>rfl
       |some r=>cases r<;>rfl
      |_=>rfl
   |_=>rfl
def q85 (h:zd)(b:Nat)(es:List (qa×qa))(kv v:qa)(r:Option (Option (Nat×qa))):Option qm:=match r with
 |some (some (i,_))=>qbv (yv h b (.map (qcd es i v))) .undef
 |some none=>ifR (Nat.ble es.length 1073741824) (qbv (yv h b (.map (es++[(kv,v)]))) .undef)
 |none=>none
@[go_sem] theorem q99 {b:Nat}{es:List (qa×qa)}{kv v:qa}:q85 h b es kv v (some none)=ifR (Nat.ble es.length 1073741824) (qbv (yv h b (.map (es++[(kv,v)]))) .undef):=rfl
def qyw (h:zd)(b:Nat)(kd:Kd)(kv v:qa)(x:Option qv):Option qm:=match x with
 |some (.map es)=>q85 h b es kv v (y8 kd kv es 0)
 |_=>none
@[go_sem] theorem q3p {b:Nat}{kd:Kd}{kv v:qa}{es:List (qa×qa)}:qyw h b kd kv v (some (.map es))=q85 h b es kv v (y8 kd kv es 0):=rfl
def jdz (h0:Nat)(al:Option (List Nat))(h:zd)(kd:Kd)(m k x:Option qa):Option qm:=match m,k,x with
 |some (.map b),some kv,some v=>ifR (kg h0 al b) (qyw h b kd kv v h[b]?)
 |_,_,_=>none
@[go_sem] theorem jzq {b:Nat}{kd:Kd}{kv v:qa}:jdz h0 al h kd (some (.map b)) (some kv) (some v)=ifR (kg h0 al b) (qyw h b kd kv v h[b]?):=rfl
@[go_sem] theorem jo4 {kd:Kd}{m k x:qf}:j9 p xc h0 al e h (.mapUpdate kd m k x)=jdz h0 al h kd (zc e m) (zc e k) (zc e x):=by
 simp only[j9,zr,jdz]
 cases zc e m with
 |none=>cases zc e k<;>cases zc e x<;>rfl
 |some v=>cases zc e k with
  |none=>cases v<;>cases zc e x<;>rfl
  |some kv=>cases zc e x with
   |none=>cases v<;>rfl
   |some xv=>cases v with
    |map b=>
     simp only[ifR,qam,qyw,q85,qbv]
     cases kg h0 al b with
     |false=>rfl
     |true=>
      simp only[cT]
      cases h[b]? with
      |none=>rfl
      |some x=>cases x with
       |map es=>
        simp only[]
        cases y8 kd kv es 0 with
        |none=>rfl
        |some r=>cases r with
         |none=>
          simp only[]
          cases Nat.ble es.length 1073741824 with
          |false=>rfl
          |true=>simp only[cT];cases yv h b (.map (es++[(kv,xv)]))<;>rfl
         |some r=>simp only[];cases yv h b (.map (qcd es r.1 xv))<;>rfl
       |_=>rfl
    |_=>rfl
def qbz (l:List (List UInt8)):List (qa×qa):=l.map fun s=>(.str s,.bool true)
theorem q23 (s:List UInt8):∀(l:List (List UInt8)) (i:Nat),y8 .str (.str s) (qbz l) i=some (if s∈l then some (i+l.idxOf s,.bool true)else none)
 | [],i=>by simp[qbz,y8]
 |a::l,i=>by
  show y8 .str (.str s) ((.str a,.bool true)::qbz l) i=_
  simp only[y8,qbo]
  by_cases hs:s=a
  ·subst hs;simp
  ·have hb:(s == a)=false:=by simp[hs]
   have ha:¬a=s:=fun hh=>hs hh.symm
   simp only[hb]
   rw[q23 s l (i+1)]
   by_cases hm:s∈l
   ·have hb':(a == s)=false:=by simp[ha]
    simp[hm,List.idxOf_cons,hb'];omega
   ·simp[hm,hs]
@[go_sem] theorem qwg {s:List UInt8}{l:List (List UInt8)}:y8 .str (.str s) (qbz l) 0=some (if s∈l then some (l.idxOf s,.bool true)else none):=by
 rw[q23];simp
theorem q8j (l:List (List UInt8))(s:List UInt8):qbz l++[(.str s,.bool true)]=qbz (l++[s]):=by simp[qbz]
@[go_sem] theorem jcc {l:List (List UInt8)}:(qbz l).length=l.length:=by simp[qbz]
def qe7 (agg:Bool)(len sz:Nat)(h:zd)(x i:Option qa):Option qm:=match x,i with
  |some (.ptr b o),some j=>(match idx len j with
   |some j=>val h (.ptr b (o+j*sz))
   |none=>none)
  |some (.vptr (.agg cs)),some j=>(match idx len j with
   |some j=>(match part agg cs (j*sz) sz with
    |some v=>bif Bool.xor agg v.isAgg then none else val h (.vptr v)
    |none=>none)
   |none=>none)
  |_,_=>none
@[go_sem] theorem jso {agg:Bool}{len sz:Nat}{x i:qf}:j9 p xc h0 al e h (.indexArr agg len sz x i)=qe7 agg len sz h (zc e x) (zc e i):=rfl
end
end Go.Abs
