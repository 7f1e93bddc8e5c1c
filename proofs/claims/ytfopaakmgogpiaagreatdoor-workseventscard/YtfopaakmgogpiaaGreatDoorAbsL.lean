/- Equations of the executor, third part. -/
import Derived.Test.YtfopaakmgogpiaaGreatDoorAbsJ
import Derived.Test.YtfopaakmgogpiaaGreatDoorAbsD
set_option linter.unusedVariables false
set_option linter.unusedSimpArgs false
namespace Go.Abs
section
variable {p:qt}{xc:XC}{h0:Nat}{al:Option (List Nat)}{e:Env}{h:j8}{α:Type}
def qzj {α γ δ:Type}(g:Nat→γ→α→γ⊕δ):Nat→γ→List α→γ⊕δ
 |_,s,[]=>.inl s
 |i,s,x::l=>match g i s x with
  | .inl s'=>qzj g (i+1) s' l
  | .inr d=>.inr d
def jsz {γ δ:Type}(En:γ→qo×qg)(Ex:δ→qo×qg):γ⊕δ→qo×qg
 | .inl s=>En s
 | .inr d=>Ex d
@[simp] theorem zhr {γ δ:Type}{En:γ→qo×qg}{Ex:δ→qo×qg}{s:γ}:jsz En Ex (.inl s)=En s:=rfl
@[simp] theorem zg0 {γ δ:Type}{En:γ→qo×qg}{Ex:δ→qo×qg}{s:δ}:jsz En Ex (.inr s)=Ex s:=rfl
theorem ja8 {c:qe}{n:Nat}{r:qo×qg}(hr:r.1≠.normal):qs3 p c n (some r)=some r:=by
 obtain⟨x,st⟩:=r
 cases x with
 |normal=>exact absurd rfl hr
 |ret=>rfl
 |exit id=>rfl
theorem jmm {n:Nat}{st:qg}{h':j8}(hn:n=h.length)(hs:st.heap=h++h')(h1:qbw n st.env=true)(h2:ki n h=true):gc n st=⟨st.env,h⟩:=by
 obtain⟨ev,hp⟩:=st
 simp only at hs h1
 subst hs hn
 unfold gc
 cases h' with
 |nil=>simp
 |cons b h'=>
  have hle:Nat.ble (h++b::h').length h.length=false:=by
   rw[qcf];simp
  simp only[hle,cond_false,List.take_left',h1,h2,Bool.and_self,cT]
def qh7 (h:j8)(x i:Option qa):Option qq:=match x,i with
 |some (.str s),some j=>(match idx s.length j with
   |some j=>(match s[j]? with
    |some c=>val h (.int .u8 c.toNat)
    |none=>none)
   |none=>none)
 |_,_=>none
@[go_sem] theorem j39 {x i:qh}:j9 p xc h0 al e h (.strIndex x i)=qh7 h (zc e x) (zc e i):=by
 simp only[j9,zh,qh7]
 cases zc e x with
 |none=>rfl
 |some v=>cases v with
  |str s=>cases zc e i<;>rfl
  |_=>cases zc e i<;>rfl
theorem jbl {s:List UInt8}{k:IntKind}{i:Nat}{c:UInt8}(hc:s[i]?=some c):qh7 h (some (.str s)) (some (.int k (i:Int)))=some ⟨.int .u8 c.toNat,false,none,h⟩:=by
 have hl:i<s.length:=(List.getElem?_eq_some_iff.1 hc).1
 have:idx s.length (.int k (i:Int))=some i:=by rw[qhb,qu8 hl]
 simp only[qh7,this,hc,val]
@[go_sem] theorem zik {a b:List UInt8}:qam .eql (.str a) (.str b)=some (.bool (decide (a=b))):=by
 by_cases hab:a=b<;>simp[qam,qqg,hab]
@[go_sem] theorem zim {a b:List UInt8}:qam .neq (.str a) (.str b)=some (.bool (!decide (a=b))):=by
 by_cases hab:a=b<;>simp[qam,qqg,hab]
def qzd (h0 r:Nat)(h:j8)(x:Option qa):Option qq:=match x with
 |some (.str s)=>qcv (newBox h0 h r (.iter s 0)) (.ptr (h0+r) 0)
 |_=>none
@[go_sem] theorem jvd {r:Nat}{s:List UInt8}:qzd h0 r h (some (.str s))=qcv (newBox h0 h r (.iter s 0)) (.ptr (h0+r) 0):=rfl
@[go_sem] theorem j89 {r:Nat}{x:qh}:j9 p xc h0 al e h (.srange r x)=qzd h0 r h (zc e x):=by
 simp only[j9,zj,qzd]
 cases zc e x with
 |none=>rfl
 |some v=>cases v with
  |str s=>simp only[qcv];cases newBox h0 h r (.iter s 0)<;>rfl
  |_=>rfl
def qik (h:j8)(b:Nat)(x:Option qn):Option qq:=match x with
 |some (.iter s pos)=>bif Nat.blt pos s.length then qcv (ym h b (.iter s (pos+(zg s pos).2))) (.tup [.bool true,.int .i64 pos,.int .i32 (zg s pos).1])else val h (.tup [.bool false])
 |_=>none
theorem jge {b pos:Nat}{s:List UInt8}(hp:pos<s.length):qik h b (some (.iter s pos))=qcv (ym h b (.iter s (pos+(zg s pos).2))) (.tup [.bool true,.int .i64 pos,.int .i32 (zg s pos).1]):=by
 simp only[qik,qe8,hp,decide_true,cT]
theorem jbk {b pos:Nat}{s:List UInt8}(hp:¬pos<s.length):qik h b (some (.iter s pos))=some ⟨.tup [.bool false],false,none,h⟩:=by
 simp only[qik,qe8,hp,decide_false,cond_false,val]
def q4r (h0:Nat)(al:Option (List Nat))(h:j8)(x:Option qa):Option qq:=match x with
 |some (.ptr b 0)=>ifR (yv h0 al b) (qik h b h[b]?)
 |_=>none
@[go_sem] theorem jyg {b:Nat}:q4r h0 al h (some (.ptr b 0))=ifR (yv h0 al b) (qik h b h[b]?):=rfl
@[go_sem] theorem zi1 {x:qh}:j9 p xc h0 al e h (.snext x)=q4r h0 al h (zc e x):=by
 simp only[j9,zj,q4r]
 cases zc e x with
 |none=>rfl
 |some v=>cases v with
  |ptr b o=>
   cases o with
   |succ o=>rfl
   |zero=>
    simp only[ifR,y6,qik,qcv]
    cases yv h0 al b with
    |false=>rfl
    |true=>
     simp only[cT]
     cases h[b]? with
     |none=>rfl
     |some x=>cases x with
      |iter s pos=>
       simp only[]
       cases Nat.blt pos s.length with
       |false=>rfl
       |true=>simp only[cT];cases ym h b (.iter s (pos+(zg s pos).2))<;>rfl
      |_=>rfl
  |_=>rfl
theorem jbi {s:List UInt8}{i:Nat}{c:UInt8}(hc:s[i]?=some c)(hl:c.toNat<128):zg s i=(c.toNat,1):=by
 have hg:(ByteArray.get! ⟨⟨s⟩⟩ (i+0))=c:=by
  obtain⟨h1,h2⟩:=List.getElem?_eq_some_iff.1 hc
  simp[ByteArray.get!,h1,h2]
 simp only[zg,Utf8.decode,hg,hl,if_true]
theorem jbx {s:List UInt8}{i:Nat}{c:UInt8}(hc:s[i]?=some c)(hl:¬c.toNat<128):128≤(zg s i).1:=by
 have hg:(ByteArray.get! ⟨⟨s⟩⟩ (i+0))=c:=by
  obtain⟨h1,h2⟩:=List.getElem?_eq_some_iff.1 hc
  simp[ByteArray.get!,h1,h2]
 simp only[zg,Utf8.decode,hg,hl,if_false,Utf8.runeError]
 split
 ·split<;>simp<;>omega
 ·split
  ·split
   ·next hh=>simp only[Bool.and_eq_true,decide_eq_true_eq]at hh;simp only;omega
   ·decide
  ·split
   ·split
    ·next hh=>simp only[Bool.and_eq_true,decide_eq_true_eq]at hh;simp only;omega
    ·decide
   ·decide
def qjt (h:j8)(zero:qa)(r:Option (Option (Nat×qa))):Option qq:=match r with
 |some (some (_,v))=>val h v
 |some none=>val h zero
 |none=>none
@[go_sem] theorem j1k {z v:qa}{i:Nat}:qjt h z (some (some (i,v)))=some ⟨v,false,none,h⟩:=rfl
@[go_sem] theorem jxa {z:qa}:qjt h z (some none)=some ⟨z,false,none,h⟩:=rfl
def q1c (h:j8)(kd:Kd)(z kv:qa)(x:Option qn):Option qq:=match x with
 |some (.map es)=>qjt h z (yz kd kv es 0)
 |_=>none
@[go_sem] theorem j8f {kd:Kd}{z kv:qa}{es:List (qa×qa)}:q1c h kd z kv (some (.map es))=qjt h z (yz kd kv es 0):=rfl
def qzy (h0:Nat)(al:Option (List Nat))(h:j8)(kd:Kd)(z:qa)(m k:Option qa):Option qq:=match m,k with
 |some (.map b),some kv=>ifR (yv h0 al b) (q1c h kd z kv h[b]?)
 |some .nilmap,some _=>val h z
 |_,_=>none
@[go_sem] theorem jvr {kd:Kd}{z kv:qa}{b:Nat}:qzy h0 al h kd z (some (.map b)) (some kv)=ifR (yv h0 al b) (q1c h kd z kv h[b]?):=rfl
@[go_sem] theorem zh2 {kd:Kd}{z:qa}{m k:qh}:j9 p xc h0 al e h (.lookup kd z false m k)=qzy h0 al h kd z (zc e m) (zc e k):=by
 simp only[j9,qaf,qzy]
 cases zc e m with
 |none=>cases zc e k<;>rfl
 |some v=>cases zc e k with
  |none=>cases v<;>rfl
  |some kv=>cases v with
   |map b=>
    simp only[ifR,y6,q1c,qjt]
    cases yv h0 al b with
    |false=>rfl
    |true=>
     simp only[cT]
     cases h[b]? with
     |none=>rfl
     |some x=>cases x with
      |map es=>
       simp only[]
       cases yz kd kv es 0 with
       |none=>rfl
       |some r=>cases r<;>rfl
      |_=>rfl
   |_=>rfl
def qze (h:j8)(b:Nat)(es:List (qa×qa))(kv v:qa)(r:Option (Option (Nat×qa))):Option qq:=match r with
 |some (some (i,_))=>qcv (ym h b (.map (qde es i v))) .undef
 |some none=>ifR (Nat.ble es.length 1073741824) (qcv (ym h b (.map (es++[(kv,v)]))) .undef)
 |none=>none
@[go_sem] theorem j6x {b:Nat}{es:List (qa×qa)}{kv v:qa}:qze h b es kv v (some none)=ifR (Nat.ble es.length 1073741824) (qcv (ym h b (.map (es++[(kv,v)]))) .undef):=rfl
def q93 (h:j8)(b:Nat)(kd:Kd)(kv v:qa)(x:Option qn):Option qq:=match x with
 |some (.map es)=>qze h b es kv v (yz kd kv es 0)
 |_=>none
@[go_sem] theorem zh4 {b:Nat}{kd:Kd}{kv v:qa}{es:List (qa×qa)}:q93 h b kd kv v (some (.map es))=qze h b es kv v (yz kd kv es 0):=rfl
def jeu (h0:Nat)(al:Option (List Nat))(h:j8)(kd:Kd)(m k x:Option qa):Option qq:=match m,k,x with
 |some (.map b),some kv,some v=>ifR (yv h0 al b) (q93 h b kd kv v h[b]?)
 |_,_,_=>none
@[go_sem] theorem zb7 {b:Nat}{kd:Kd}{kv v:qa}:jeu h0 al h kd (some (.map b)) (some kv) (some v)=ifR (yv h0 al b) (q93 h b kd kv v h[b]?):=rfl
@[go_sem] theorem jvx {kd:Kd}{m k x:qh}:j9 p xc h0 al e h (.mapUpdate kd m k x)=jeu h0 al h kd (zc e m) (zc e k) (zc e x):=by
 simp only[j9,zj,jeu]
 cases zc e m with
 |none=>cases zc e k<;>cases zc e x<;>rfl
 |some v=>cases zc e k with
  |none=>cases v<;>cases zc e x<;>rfl
  |some kv=>cases zc e x with
   |none=>cases v<;>rfl
   |some xv=>cases v with
    |map b=>
     simp only[ifR,y6,q93,qze,qcv]
     cases yv h0 al b with
     |false=>rfl
     |true=>
      simp only[cT]
      cases h[b]? with
      |none=>rfl
      |some x=>cases x with
       |map es=>
        simp only[]
        cases yz kd kv es 0 with
        |none=>rfl
        |some r=>cases r with
         |none=>
          simp only[]
          cases Nat.ble es.length 1073741824 with
          |false=>rfl
          |true=>simp only[cT];cases ym h b (.map (es++[(kv,xv)]))<;>rfl
         |some r=>simp only[];cases ym h b (.map (qde es r.1 xv))<;>rfl
       |_=>rfl
    |_=>rfl
def jbc (agg:Bool)(len sz:Nat)(h:j8)(x i:Option qa):Option qq:=match x,i with
  |some (.ptr b o),some j=>(match idx len j with
   |some j=>val h (.ptr b (o+j*sz))
   |none=>none)
  |some (.vptr (.agg cs)),some j=>(match idx len j with
   |some j=>(match part agg cs (j*sz) sz with
    |some v=>bif Bool.xor agg v.isAgg then none else val h (.vptr v)
    |none=>none)
   |none=>none)
  |_,_=>none
@[go_sem] theorem j0z {agg:Bool}{len sz:Nat}{x i:qh}:j9 p xc h0 al e h (.indexArr agg len sz x i)=jbc agg len sz h (zc e x) (zc e i):=rfl
end
section
variable {p:qt}{xc:XC}{h0:Nat}{al:Option (List Nat)}{e:Env}{h:j8}{α:Type}
@[go_sem] theorem jqv {n s v:Nat}{xs:List qa}:qcx n (.vec s v xs)=true:=rfl
@[go_sem] theorem qxv {n b v k:Nat}:below n (.vref b v k)=decide (b<n):=by
 simp only[below]
 cases hb:Nat.blt b n with
 |true=>simp[Nat.blt_eq.mp hb]
 |false=>
  have:¬b<n:=fun h=>by rw[Nat.blt_eq.mpr h]at hb;cases hb
  simp[this]
def yw (f:α→qa)(l:List α):List qa:=(l.map f).flatMap qa.flat
theorem j6r {f:α→qa}:yw f []=[]:=rfl
theorem qc5 {f:α→qa}{x:α}{l:List α}:yw f (x::l)=(f x).flat++yw f l:=rfl
theorem q4w {f:α→qa}{l m:List α}:yw f (l++m)=yw f l++yw f m:=by simp[yw]
theorem qfh {f:α→qa}{sz:Nat}(hf:∀x,(f x).flat.length=sz)(l:List α):(yw f l).length=l.length*sz:=by
 induction l with
 |nil=>simp[yw]
 |cons x l ih=>rw[qc5,List.length_append,hf,ih,List.length_cons,Nat.succ_mul];omega
theorem qvu {f:α→qa}{sz:Nat}(hf:∀x,(f x).flat.length=sz):∀ {l:List α} {i:Nat},(yw f l).drop (i*sz)=yw f (l.drop i)
 | [],i=>by simp[yw]
 |x::l,0=>by simp
 |x::l,i+1=>by
  rw[qc5,List.drop_succ_cons,←qvu hf,show(i+1)*sz=(f x).flat.length+i*sz by rw[hf,Nat.succ_mul];omega,List.drop_append]
  simp
theorem q9c {f:α→qa}{sz:Nat}(hf:∀x,(f x).flat.length=sz):∀ {l:List α} {i:Nat},(yw f l).take (i*sz)=yw f (l.take i)
 | [],i=>by simp[yw]
 |x::l,0=>by simp[yw]
 |x::l,i+1=>by
  rw[qc5,List.take_succ_cons,qc5,←q9c hf,show(i+1)*sz=(f x).flat.length+i*sz by rw[hf,Nat.succ_mul];omega,List.take_append]
  congr 1
  ·exact List.take_of_length_le (by omega)
  ·congr 1;omega
theorem jfg {f:α→qa}{sz i:Nat}{l:List α}{x:α}(hf:∀x,(f x).flat.length=sz)(hx:l[i]?=some x):(yw f l).drop (i*sz)=(f x).flat++yw f (l.drop (i+1)):=by
 rw[qvu hf]
 have hlt:=(List.getElem?_eq_some_iff.1 hx).1
 rw[List.drop_eq_getElem_cons hlt,qc5,(List.getElem?_eq_some_iff.1 hx).2]
theorem qf4 {f:α→qa}{sz i o n:Nat}{l:List α}{x:α}(hf:∀x,(f x).flat.length=sz)(hx:l[i]?=some x)(ho:o+n≤sz):((yw f l).drop (i*sz+o)).take n=((f x).flat.drop o).take n∧i*sz+o+n≤(yw f l).length:=by
 have hlt:=(List.getElem?_eq_some_iff.1 hx).1
 refine⟨?_,?_⟩
 ·rw[←List.drop_drop,jfg hf hx,List.drop_append,List.take_append]
  have h1:(f x).flat.length=sz:=hf x
  have h2:n-((f x).flat.drop o).length=0:=by rw[List.length_drop];omega
  rw[h2,List.take_zero,List.append_nil]
 ·rw[qfh hf]
  have:(i+1)*sz≤l.length*sz:=Nat.mul_le_mul_right _ hlt
  rw[Nat.succ_mul]at this
  omega
theorem qz2 {f:α→qa}{sz i o:Nat}{l:List α}{x y:α}{us:List qa}(hf:∀x,(f x).flat.length=sz)(hx:l[i]?=some x)(ho:o+us.length≤sz)(hy:(f y).flat=(f x).flat.take o++us++(f x).flat.drop (o+us.length)):
  (yw f l).take (i*sz+o)++us++(yw f l).drop (i*sz+o+us.length)=yw f (l.set i y):=by
 have hlt:=(List.getElem?_eq_some_iff.1 hx).1
 have hsplit:l=l.take i++x::l.drop (i+1):=by
  conv=>lhs;rw[←List.take_append_drop i l,List.drop_eq_getElem_cons hlt,(List.getElem?_eq_some_iff.1 hx).2]
 have hset:l.set i y=l.take i++y::l.drop (i+1):=by rw[List.set_eq_take_append_cons_drop,if_pos hlt]
 have hl:(yw f (l.take i)).length=i*sz:=by rw[qfh hf,List.length_take,Nat.min_eq_left (by omega)]
 have h1:(f x).flat.length=sz:=hf x
 rw[hset]
 conv=>lhs;rw[hsplit]
 simp only[q4w,qc5]
 rw[hy,List.take_append,List.drop_append,hl]
 have e1:(yw f (l.take i)).take (i*sz+o)=yw f (l.take i):=List.take_of_length_le (by omega)
 have e2:(yw f (l.take i)).drop (i*sz+o+us.length)=[]:=List.drop_eq_nil_of_le (by omega)
 rw[e1,e2,List.nil_append,show i*sz+o-i*sz=o by omega,show i*sz+o+us.length-i*sz=o+us.length by omega,List.take_append,List.drop_append]
 have e3:o-(f x).flat.length=0:=by omega
 have e4:o+us.length-(f x).flat.length=0:=by omega
 rw[e3,e4,List.take_zero,List.drop_zero,List.append_nil]
 simp[List.append_assoc]
def rcl (f:α→qa)(l:List α):List (qa×Bool):=cellsOf (yw f l)
theorem kw {vs:List qa}:(cellsOf vs).map (·.1)=vs:=by
 induction vs with
 |nil=>rfl
 |cons v vs ih=>simp only[cellsOf,List.map_cons]at ih ⊢;rw[ih]
theorem j45 {f:α→qa}{sz:Nat}(hf:∀x,(f x).flat.length=sz)(l:List α):(rcl f l).length=l.length*sz:=by simp[rcl,cellsOf,qfh hf]
theorem qgh {f:α→qa}{sz i o n:Nat}{l:List α}{x:α}(hf:∀x,(f x).flat.length=sz)(hx:l[i]?=some x)(ho:o+n≤sz):y9 (rcl f l) (i*sz+o) n=some (((f x).flat.drop o).take n):=by
 obtain⟨h1,h2⟩:=qf4 hf hx ho
 unfold y9
 have:(rcl f l).length=(yw f l).length:=by simp[rcl,cellsOf]
 rw[this,Nat.ble_eq_true_of_le h2]
 simp only[cT,Option.some.injEq]
 rw[←h1]
 simp only[rcl,List.map_take,List.map_drop,kw]
theorem zii {f:α→qa}{sz i:Nat}{l:List α}{x:α}(hf:∀x,(f x).flat.length=sz)(hx:l[i]?=some x):y9 (rcl f l) (i*sz) sz=some (f x).flat:=by
 have:=qgh (o:=0) (n:=sz) hf hx (by omega)
 rw[Nat.add_zero,List.drop_zero,List.take_of_length_le (by rw[hf];exact Nat.le_refl _)]at this
 exact this
theorem qc1 {f:α→qa}{sz i o:Nat}{l:List α}{x y:α}{us:List qa}(hf:∀x,(f x).flat.length=sz)(hx:l[i]?=some x)(ho:o+us.length≤sz)(hs:us.all ze=true)(hy:(f y).flat=(f x).flat.take o++us++(f x).flat.drop (o+us.length)):
  yj (rcl f l) (i*sz+o) us=some (rcl f (l.set i y)):=by
 obtain⟨_,h2⟩:=qf4 hf hx ho
 unfold yj
 have:(rcl f l).length=(yw f l).length:=by simp[rcl,cellsOf]
 rw[this,Nat.ble_eq_true_of_le h2,hs]
 simp only[Bool.and_self,cT,Option.some.injEq]
 rw[show rcl f (l.set i y)=cellsOf (yw f (l.set i y))from rfl,←qz2 hf hx ho hy]
 simp[rcl,cellsOf,List.map_append,List.map_take,List.map_drop]
theorem q5p {f:α→qa}{sz i o:Nat}{l:List α}{x y:α}{u:qa}(hf:∀x,(f x).flat.length=sz)(hx:l[i]?=some x)(ho:o<sz)(hy:(f y).flat=(f x).flat.set o u):(rcl f l).set (i*sz+o) (u,false)=rcl f (l.set i y):=by
 have hl:(f x).flat.length=sz:=hf x
 have h2:=(qf4 (n:=1) (o:=o) hf hx (by omega)).2
 have:=qz2 (us:=[u]) (y:=y) (o:=o) hf hx (by simp;omega) (by rw[hy,List.set_eq_take_append_cons_drop,if_pos (show o<(f x).flat.length by omega)];simp)
 rw[show rcl f (l.set i y)=cellsOf (yw f (l.set i y))from rfl,←this]
 simp only[rcl,cellsOf,List.length_cons,List.length_nil]
 rw[List.set_eq_take_append_cons_drop,if_pos (by simp;omega)]
 simp[List.map_append,List.map_take,List.map_drop]
theorem j43 {f:α→qa}{sz i o n b v:Nat}{l:List α}{x:α}(hf:∀x,(f x).flat.length=sz)(hb:h[b]?=some (.vec sz v (l.map f)))(hal:qgl h0 al b=true)(hx:l[i]?=some x)(ho:o+n≤sz):
  qas h0 al true n h (some (.vel b v (i*sz+o)))=some ⟨.agg (((f x).flat.drop o).take n),false,none,h⟩:=by
 obtain⟨h1,h2⟩:=qf4 hf hx ho
 have hg:y6 h b=some (.vec sz v (l.map f)):=hb
 show(bif qgl h0 al b then(match y6 h b with
   |some (.vec _ ver' xs)=>bif Nat.beq v ver'&&Nat.ble (i*sz+o+n) (xs.flatMap qa.flat).length then(bif true then val h (.agg (((xs.flatMap qa.flat).drop (i*sz+o)).take n))else(match((xs.flatMap qa.flat).drop (i*sz+o)).take n with
     | [v]=>val h v
     |_=>none))else none
   |_=>none)else none)=_
 rw[hal,hg]
 simp only[cT,Nat.beq_refl,Bool.true_and]
 have h3:Nat.ble (i*sz+o+n) ((l.map f).flatMap qa.flat).length=true:=Nat.ble_eq_true_of_le h2
 rw[h3]
 simp only[cT,val]
 have h4:(((l.map f).flatMap qa.flat).drop (i*sz+o)).take n=((f x).flat.drop o).take n:=h1
 rw[h4]
theorem qvx {f:α→qa}{sz i b v:Nat}{l:List α}{x:α}(hf:∀x,(f x).flat.length=sz)(hb:h[b]?=some (.vec sz v (l.map f)))(hal:qgl h0 al b=true)(hx:l[i]?=some x):
  qas h0 al true sz h (some (.vel b v (i*sz)))=some ⟨.agg (f x).flat,false,none,h⟩:=by
 have:=j43 (al:=al) (h0:=h0) (o:=0) (n:=sz) hf hb hal hx (by omega)
 rw[Nat.add_zero,List.drop_zero,List.take_of_length_le (by rw[hf];exact Nat.le_refl _)]at this
 exact this
theorem q4k {f:α→qa}{sz i o b v:Nat}{l:List α}{x:α}{u:qa}(hf:∀x,(f x).flat.length=sz)(hb:h[b]?=some (.vec sz v (l.map f)))(hal:qgl h0 al b=true)(hx:l[i]?=some x)(hu:(f x).flat[o]?=some u):
  qas h0 al false 1 h (some (.vel b v (i*sz+o)))=some ⟨u,false,none,h⟩:=by
 have hlt:=(List.getElem?_eq_some_iff.1 hu).1
 rw[hf]at hlt
 obtain⟨h1,h2⟩:=qf4 (n:=1) hf hx (by omega:o+1≤sz)
 have hg:y6 h b=some (.vec sz v (l.map f)):=hb
 show(bif qgl h0 al b then(match y6 h b with
   |some (.vec _ ver' xs)=>bif Nat.beq v ver'&&Nat.ble (i*sz+o+1) (xs.flatMap qa.flat).length then(bif false then val h (.agg (((xs.flatMap qa.flat).drop (i*sz+o)).take 1))else(match((xs.flatMap qa.flat).drop (i*sz+o)).take 1 with
     | [v]=>val h v
     |_=>none))else none
   |_=>none)else none)=_
 rw[hal,hg]
 simp only[cT,Nat.beq_refl,Bool.true_and]
 have h3:Nat.ble (i*sz+o+1) ((l.map f).flatMap qa.flat).length=true:=Nat.ble_eq_true_of_le h2
 have h4:(((l.map f).flatMap qa.flat).drop (i*sz+o)).take 1=[u]:=by
  show((yw f l).drop (i*sz+o)).take 1=[u]
  have hol:=(List.getElem?_eq_some_iff.1 hu).1
  rw[h1,List.drop_eq_getElem_cons hol,(List.getElem?_eq_some_iff.1 hu).2]
  rfl
 rw[h3,h4]
 rfl
def qbg (h0:Nat)(r sz bytes:Nat)(h:j8)(x y:Option qa):Option qq:=match x,y with
 |some (.list true _ []),some vy=>(match kl sz vy with
   |some ys=>
    bif Nat.ble ys.length 1073741824&&Nat.ble bytes 4096&&Nat.blt 0 sz&&!ys.isEmpty&&zu 0 ys&&Nat.blt r 1000 then
     (match newBox h0 h r (.vec sz 0 ys)with
      |some h'=>val h' (.vref (h0+r) 0 ys.length)
      |none=>none)else none
   |none=>none)
 |some (.vref b ver len),some vy=>(match y6 h b with
  |some (.vec sz' ver' xs)=>(match kl sz vy with
   |some ys=>
    bif Nat.beq ver ver'&&Nat.beq sz sz'&&Nat.ble len xs.length&&Nat.ble (len+ys.length) 1073741824&&Nat.ble bytes 4096&&Nat.blt 0 sz&&zu 0 ys&&Nat.blt r 1000 then
     (match ym h b (.vec sz (ver+1) (xs.take len++ys))with
      |some h'=>val h' (.vref b (ver+1) (len+ys.length))
      |none=>none)else none
   |none=>none)
  |_=>none)
 |_,_=>none
@[go_sem] theorem zi9 {r sz bytes:Nat}{x y:qh}:j9 p xc h0 al e h (.vapp r sz bytes x y)=qbg h0 r sz bytes h (zc e x) (zc e y):=rfl
theorem qic {r sz z bytes:Nat}{ys:List qa}{b:Bool}{h':j8}(hl:ys.length≤1073741824)(hb:bytes≤4096)(hz:0<sz)(hne:ys≠[])(hp:zu 0 ys=true)(hr:r<1000)(hn:newBox h0 h r (.vec sz 0 ys)=some h'):qbg h0 r sz bytes h (some (.list true z [])) (some (.list b sz ys))=some ⟨.vref (h0+r) 0 ys.length,false,none,h'⟩:=by
 have h5:ys.isEmpty=false:=by cases ys<;>simp at hne ⊢
 simp only[qbg,kl,Nat.beq_refl,Bool.true_or,cT,Nat.ble_eq_true_of_le hl,Nat.ble_eq_true_of_le hb,Nat.blt_eq.mpr hz,h5,hp,Nat.blt_eq.mpr hr,Bool.not_false,Bool.and_self,hn]
 rfl
theorem jbn {r sz bytes b v len:Nat}{xs ys:List qa}{c:Bool}(hbx:h[b]?=some (.vec sz v xs))(hlen:len≤xs.length)(hl:len+ys.length≤1073741824)(hb:bytes≤4096)(hz:0<sz)(hp:zu 0 ys=true)(hr:r<1000):
  qbg h0 r sz bytes h (some (.vref b v len)) (some (.list c sz ys))=some ⟨.vref b (v+1) (len+ys.length),false,none,h.set b (.vec sz (v+1) (xs.take len++ys))⟩:=by
 have hg:y6 h b=some (.vec sz v xs):=hbx
 have hlt:=(List.getElem?_eq_some_iff.1 hbx).1
 simp only[qbg,hg,kl,Nat.beq_refl,Bool.true_or,cT,Nat.ble_eq_true_of_le hlen,Nat.ble_eq_true_of_le hl,Nat.ble_eq_true_of_le hb,Nat.blt_eq.mpr hz,hp,Nat.blt_eq.mpr hr,Bool.and_self,ym,Nat.blt_eq.mpr hlt]
 rfl
theorem jch {sz b v len i:Nat}{k:IntKind}(hi:i<len):qcq sz h (some (.vref b v len)) (some (.int k (i:Int)))=some ⟨.vel b v (i*sz),false,none,h⟩:=by
 have:idx len (.int k (i:Int))=some i:=by rw[qhb];exact qu8 hi
 simp only[qcq,this]
 rfl
@[go_sem] theorem zhh {n:Nat}:j9 p xc h0 al e h (.valloc n)=some ⟨.pend n,true,none,h⟩:=rfl
def qtf (n:Nat)(h:j8)(x:Option (qa×Bool))(y:Option qa):Option qq:=match x,y with
 |some (.pend m,true),some v=>ifR (Nat.beq m n&&Nat.beq v.flat.length n&&v.flat.all ze) (some ⟨.vptr v,false,none,h⟩)
 |_,_=>none
theorem q3c {n m:Nat}{v:qa}:qtf n h (some (.pend m,true)) (some v)=ifR (Nat.beq m n&&Nat.beq v.flat.length n&&v.flat.all ze) (some ⟨.vptr v,false,none,h⟩):=rfl
@[go_sem] theorem j68 {n:Nat}{v:qa}(hv:(Nat.beq v.flat.length n&&v.flat.all ze)=true):qtf n h (some (.pend n,true)) (some v)=some ⟨.vptr v,false,none,h⟩:=by
 rw[q3c,Nat.beq_refl,Bool.true_and,hv];rfl
@[go_sem] theorem j9g {n s:Nat}{x:qh}:j9 p xc h0 al e h (.vstore n s x)=qtf n h (ye s e) (zc e x):=by
 simp only[j9,zh,qtf]
 split
 ·rename_i m v h1 h2
  rw[h1,h2]
  simp only[ifR]
  cases (Nat.beq m n&&Nat.beq v.flat.length n&&v.flat.all ze)<;>rfl
 ·rename_i hno
  split
  ·rename_i m v h1 h2
   exact absurd h2 (hno m v h1)
  ·rfl
end
end Go.Abs
