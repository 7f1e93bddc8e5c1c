/- Equations of the executor, third part. -/
import Derived.Test.YtnjngdcbkkonnaaGreatDoorAbsJ
set_option linter.unusedVariables false
set_option linter.unusedSimpArgs false
namespace Go.Abs
section
variable {p:qo}{xc:XC}{h0:Nat}{al:Option (List Nat)}{e:Env}{h:ze}{α:Type}
def jm7 {γ δ:Type}(En:γ→qj×qd)(Ex:δ→qj×qd):γ⊕δ→qj×qd
 | .inl s=>En s
 | .inr d=>Ex d
@[simp] theorem j2w {γ δ:Type}{En:γ→qj×qd}{Ex:δ→qj×qd}{s:γ}:jm7 En Ex (.inl s)=En s:=rfl
@[simp] theorem j1x {γ δ:Type}{En:γ→qj×qd}{Ex:δ→qj×qd}{s:δ}:jm7 En Ex (.inr s)=Ex s:=rfl
def qge {α γ δ:Type}(p:qo)(c:qe)(St:Nat→γ→qd)(g:Nat→γ→α→γ⊕δ)(Ex:δ→qj×qd)(Inv:Nat→γ→Prop)(i:Nat)(s:γ)(x:α):Prop:=
 match g i s x with
 | .inl s'=>Inv (i+1) s'∧∃st',X p c (St i s)=some (.normal,st')∧gc (St i s).heap.length st'=St (i+1) s'
 | .inr d=>X p c (St i s)=some (Ex d)
theorem jbw {c:qe}{n:Nat}{r:qj×qd}(hr:r.1≠.normal):qnf p c n (some r)=some r:=by
 obtain⟨x,st⟩:=r
 cases x with
 |normal=>exact absurd rfl hr
 |ret=>rfl
 |exit id=>rfl
theorem qh9 {n:Nat}{st:qd}{h':ze}(hn:n=h.length)(hs:st.heap=h++h')(h1:qa7 n st.env=true)(h2:yl n h=true):gc n st=⟨st.env,h⟩:=by
 obtain⟨ev,hp⟩:=st
 simp only at hs h1
 subst hs hn
 unfold gc
 cases h' with
 |nil=>simp
 |cons b h'=>
  have hle:Nat.ble (h++b::h').length h.length=false:=by
   rw[qb0];simp
  simp only[hle,cF,List.take_left',h1,h2,Bool.and_self,cT]
def qor (h:ze)(x i:Option qa):Option qn:=match x,i with
 |some (.str s),some j=>(match idx s.length j with
   |some j=>(match s[j]? with
    |some c=>val h (.int .u8 c.toNat)
    |none=>none)
   |none=>none)
 |_,_=>none
@[go_sem] theorem jqz {x i:qf}:j8 p xc h0 al e h (.strIndex x i)=qor h (zf e x) (zf e i):=by
 simp only[j8,zj,qor]
 cases zf e x with
 |none=>rfl
 |some v=>cases v with
  |str s=>cases zf e i<;>rfl
  |_=>cases zf e i<;>rfl
theorem jcl {s:List UInt8}{k:IntKind}{i:Nat}{c:UInt8}(hc:s[i]?=some c):qor h (some (.str s)) (some (.int k (i:Int)))=some ⟨.int .u8 c.toNat,false,none,h⟩:=by
 have hl:i<s.length:=(List.getElem?_eq_some_iff.1 hc).1
 have:idx s.length (.int k (i:Int))=some i:=by rw[qib,q4b hl]
 simp only[qor,this,hc,val]
@[go_sem] theorem j4m {a b:List UInt8}:ky .eql (.str a) (.str b)=some (.bool (decide (a=b))):=by
 by_cases hab:a=b<;>simp[ky,qn8,hab]
@[go_sem] theorem j4w {a b:List UInt8}:ky .neq (.str a) (.str b)=some (.bool (!decide (a=b))):=by
 by_cases hab:a=b<;>simp[ky,qn8,hab]
def qzy (h0 r:Nat)(h:ze)(x:Option qa):Option qn:=match x with
 |some (.str s)=>qbx (newBox h0 h r (.iter s 0)) (.ptr (h0+r) 0)
 |_=>none
@[go_sem] theorem jql {r:Nat}{s:List UInt8}:qzy h0 r h (some (.str s))=qbx (newBox h0 h r (.iter s 0)) (.ptr (h0+r) 0):=rfl
@[go_sem] theorem j0o {r:Nat}{x:qf}:j8 p xc h0 al e h (.srange r x)=qzy h0 r h (zf e x):=by
 simp only[j8,zp,qzy]
 cases zf e x with
 |none=>rfl
 |some v=>cases v with
  |str s=>simp only[qbx];cases newBox h0 h r (.iter s 0)<;>rfl
  |_=>rfl
def qj7 (h:ze)(b:Nat)(x:Option qq):Option qn:=match x with
 |some (.iter s pos)=>bif Nat.blt pos s.length then qbx (yu h b (.iter s (pos+(zi s pos).2))) (.tup [.bool true,.int .i64 pos,.int .i32 (zi s pos).1])else val h (.tup [.bool false])
 |_=>none
theorem jee {b pos:Nat}{s:List UInt8}(hp:pos<s.length):qj7 h b (some (.iter s pos))=qbx (yu h b (.iter s (pos+(zi s pos).2))) (.tup [.bool true,.int .i64 pos,.int .i32 (zi s pos).1]):=by
 simp only[qj7,qdj,hp,decide_true,cT]
theorem jax {b pos:Nat}{s:List UInt8}(hp:¬pos<s.length):qj7 h b (some (.iter s pos))=some ⟨.tup [.bool false],false,none,h⟩:=by
 simp only[qj7,qdj,hp,decide_false,cF,val]
def q3x (h0:Nat)(al:Option (List Nat))(h:ze)(x:Option qa):Option qn:=match x with
 |some (.ptr b 0)=>ifR (kf h0 al b) (qj7 h b h[b]?)
 |_=>none
@[go_sem] theorem ju6 {b:Nat}:q3x h0 al h (some (.ptr b 0))=ifR (kf h0 al b) (qj7 h b h[b]?):=rfl
@[go_sem] theorem j5b {x:qf}:j8 p xc h0 al e h (.snext x)=q3x h0 al h (zf e x):=by
 simp only[j8,zp,q3x]
 cases zf e x with
 |none=>rfl
 |some v=>cases v with
  |ptr b o=>
   cases o with
   |succ o=>rfl
   |zero=>
    simp only[ifR,qal,qj7,qbx]
    cases kf h0 al b with
    |false=>rfl
    |true=>
     simp only[cT]
     cases h[b]? with
     |none=>rfl
     |some x=>cases x with
      |iter s pos=>
       simp only[]
       cases Nat.blt pos s.length with
       |false=>rfl
       |true=>simp only[cT];cases yu h b (.iter s (pos+(zi s pos).2))<;>rfl
      |_=>rfl
  |_=>rfl
theorem jdm {s:List UInt8}{i:Nat}{c:UInt8}(hc:s[i]?=some c)(hl:c.toNat<128):zi s i=(c.toNat,1):=by
 have hg:(ByteArray.get! ⟨⟨s⟩⟩ (i+0))=c:=by
  obtain⟨h1,h2⟩:=List.getElem?_eq_some_iff.1 hc
  simp[ByteArray.get!,h1,h2]
 simp only[zi,Utf8.decode,hg,hl,if_true]
theorem jdb {s:List UInt8}{i:Nat}{c:UInt8}(hc:s[i]?=some c)(hl:¬c.toNat<128):128≤(zi s i).1:=by
 have hg:(ByteArray.get! ⟨⟨s⟩⟩ (i+0))=c:=by
  obtain⟨h1,h2⟩:=List.getElem?_eq_some_iff.1 hc
  simp[ByteArray.get!,h1,h2]
 simp only[zi,Utf8.decode,hg,hl,if_false,Utf8.runeError]
 split
 ·split<;>simp<;>omega
 ·split
  ·split
   ·next hh=>simp only[Bool.and_eq_true,decide_eq_true_eq]at hh;simp only;omega
   ·decide
  ·split
   ·split
    ·next hh=>simp only[Bool.and_eq_true,decide_eq_true_eq]at hh;simp only;omega
    ·decide
   ·decide
def qyp (h:ze)(zero:qa)(r:Option (Option (Nat×qa))):Option qn:=match r with
 |some (some (_,v))=>val h v
 |some none=>val h zero
 |none=>none
@[go_sem] theorem q98 {z v:qa}{i:Nat}:qyp h z (some (some (i,v)))=some ⟨v,false,none,h⟩:=rfl
@[go_sem] theorem q8g {z:qa}:qyp h z (some none)=some ⟨z,false,none,h⟩:=rfl
def qwz (h:ze)(kd:Kd)(z kv:qa)(x:Option qq):Option qn:=match x with
 |some (.map es)=>qyp h z (yy kd kv es 0)
 |_=>none
@[go_sem] theorem jau {kd:Kd}{z kv:qa}{es:List (qa×qa)}:qwz h kd z kv (some (.map es))=qyp h z (yy kd kv es 0):=rfl
def qyy (h0:Nat)(al:Option (List Nat))(h:ze)(kd:Kd)(z:qa)(m k:Option qa):Option qn:=match m,k with
 |some (.map b),some kv=>ifR (kf h0 al b) (qwz h kd z kv h[b]?)
 |some .nilmap,some _=>val h z
 |_,_=>none
@[go_sem] theorem jpy {kd:Kd}{z kv:qa}{b:Nat}:qyy h0 al h kd z (some (.map b)) (some kv)=ifR (kf h0 al b) (qwz h kd z kv h[b]?):=rfl
@[go_sem] theorem j1m {kd:Kd}{z:qa}{m k:qf}:j8 p xc h0 al e h (.lookup kd z false m k)=qyy h0 al h kd z (zf e m) (zf e k):=by
 simp only[j8,qau,qyy]
 cases zf e m with
 |none=>cases zf e k<;>rfl
 |some v=>cases zf e k with
  |none=>cases v<;>rfl
  |some kv=>cases v with
   |map b=>
    simp only[ifR,qal,qwz,qyp]
    cases kf h0 al b with
    |false=>rfl
    |true=>
     simp only[cT]
     cases h[b]? with
     |none=>rfl
     |some x=>cases x with
      |map es=>
       simp only[]
       cases yy kd kv es 0 with
       |none=>rfl
       |some r=>cases r<;>rfl
      |_=>rfl
   |_=>rfl
def q8w (h:ze)(b:Nat)(es:List (qa×qa))(kv v:qa)(r:Option (Option (Nat×qa))):Option qn:=match r with
 |some (some (i,_))=>qbx (yu h b (.map (qci es i v))) .undef
 |some none=>ifR (Nat.ble es.length 1073741824) (qbx (yu h b (.map (es++[(kv,v)]))) .undef)
 |none=>none
@[go_sem] theorem jal {b:Nat}{es:List (qa×qa)}{kv v:qa}:q8w h b es kv v (some none)=ifR (Nat.ble es.length 1073741824) (qbx (yu h b (.map (es++[(kv,v)]))) .undef):=rfl
def qy7 (h:ze)(b:Nat)(kd:Kd)(kv v:qa)(x:Option qq):Option qn:=match x with
 |some (.map es)=>q8w h b es kv v (yy kd kv es 0)
 |_=>none
@[go_sem] theorem q30 {b:Nat}{kd:Kd}{kv v:qa}{es:List (qa×qa)}:qy7 h b kd kv v (some (.map es))=q8w h b es kv v (yy kd kv es 0):=rfl
def jd5 (h0:Nat)(al:Option (List Nat))(h:ze)(kd:Kd)(m k x:Option qa):Option qn:=match m,k,x with
 |some (.map b),some kv,some v=>ifR (kf h0 al b) (qy7 h b kd kv v h[b]?)
 |_,_,_=>none
@[go_sem] theorem j0j {b:Nat}{kd:Kd}{kv v:qa}:jd5 h0 al h kd (some (.map b)) (some kv) (some v)=ifR (kf h0 al b) (qy7 h b kd kv v h[b]?):=rfl
@[go_sem] theorem jqe {kd:Kd}{m k x:qf}:j8 p xc h0 al e h (.mapUpdate kd m k x)=jd5 h0 al h kd (zf e m) (zf e k) (zf e x):=by
 simp only[j8,zp,jd5]
 cases zf e m with
 |none=>cases zf e k<;>cases zf e x<;>rfl
 |some v=>cases zf e k with
  |none=>cases v<;>cases zf e x<;>rfl
  |some kv=>cases zf e x with
   |none=>cases v<;>rfl
   |some xv=>cases v with
    |map b=>
     simp only[ifR,qal,qy7,q8w,qbx]
     cases kf h0 al b with
     |false=>rfl
     |true=>
      simp only[cT]
      cases h[b]? with
      |none=>rfl
      |some x=>cases x with
       |map es=>
        simp only[]
        cases yy kd kv es 0 with
        |none=>rfl
        |some r=>cases r with
         |none=>
          simp only[]
          cases Nat.ble es.length 1073741824 with
          |false=>rfl
          |true=>simp only[cT];cases yu h b (.map (es++[(kv,xv)]))<;>rfl
         |some r=>simp only[];cases yu h b (.map (qci es r.1 xv))<;>rfl
       |_=>rfl
    |_=>rfl
def qb1 (l:List (List UInt8)):List (qa×qa):=l.map fun s=>(.str s,.bool true)
theorem q2y (s:List UInt8):∀(l:List (List UInt8)) (i:Nat),yy .str (.str s) (qb1 l) i=some (if s∈l then some (i+l.idxOf s,.bool true)else none)
 | [],i=>by simp[qb1,yy]
 |a::l,i=>by
  show yy .str (.str s) ((.str a,.bool true)::qb1 l) i=_
  simp only[yy,qbt]
  by_cases hs:s=a
  ·subst hs;simp
  ·have hb:(s == a)=false:=by simp[hs]
   have ha:¬a=s:=fun hh=>hs hh.symm
   simp only[hb]
   rw[q2y s l (i+1)]
   by_cases hm:s∈l
   ·have hb':(a == s)=false:=by simp[ha]
    simp[hm,List.idxOf_cons,hb'];omega
   ·simp[hm,hs]
@[go_sem] theorem qvu {s:List UInt8}{l:List (List UInt8)}:yy .str (.str s) (qb1 l) 0=some (if s∈l then some (l.idxOf s,.bool true)else none):=by
 rw[q2y];simp
theorem jae (l:List (List UInt8))(s:List UInt8):qb1 l++[(.str s,.bool true)]=qb1 (l++[s]):=by simp[qb1]
@[go_sem] theorem ja4 {l:List (List UInt8)}:(qb1 l).length=l.length:=by simp[qb1]
def qm5 (agg:Bool)(len sz:Nat)(h:ze)(x i:Option qa):Option qn:=match x,i with
  |some (.ptr b o),some j=>(match idx len j with
   |some j=>val h (.ptr b (o+j*sz))
   |none=>none)
  |some (.vptr (.agg cs)),some j=>(match idx len j with
   |some j=>(match part agg cs (j*sz) sz with
    |some v=>bif Bool.xor agg v.isAgg then none else val h (.vptr v)
    |none=>none)
   |none=>none)
  |_,_=>none
@[go_sem] theorem jso {agg:Bool}{len sz:Nat}{x i:qf}:j8 p xc h0 al e h (.indexArr agg len sz x i)=qm5 agg len sz h (zf e x) (zf e i):=rfl
end
end Go.Abs
