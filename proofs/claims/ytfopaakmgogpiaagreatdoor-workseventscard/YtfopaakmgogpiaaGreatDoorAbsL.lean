/- Equations of the executor, third part. -/
import Derived.Test.YtfopaakmgogpiaaGreatDoorAbsJ
import Derived.Test.YtfopaakmgogpiaaGreatDoorAbsD
set_option linter.unusedVariables false
set_option linter.unusedSimpArgs false
namespace Go.Abs
section
variable {p:qu}{xc:XC}{h0:Nat}{al:Option (List Nat)}{e:Env}{h:zb}{α:Type}
def qyr {α γ δ:Type}(g:Nat→γ→α→γ⊕δ):Nat→γ→List α→γ⊕δ
 |_,s,[]=>.inl s
 |i,s,x::l=>match g i s x with
  | .inl s'=>qyr g (i+1) s' l
  | .inr d=>.inr d
def jkc {γ δ:Type}(En:γ→qn×qg)(Ex:δ→qn×qg):γ⊕δ→qn×qg
 | .inl s=>En s
 | .inr d=>Ex d
@[simp] theorem j9p {γ δ:Type}{En:γ→qn×qg}{Ex:δ→qn×qg}{s:γ}:jkc En Ex (.inl s)=En s:=rfl
@[simp] theorem j8g {γ δ:Type}{En:γ→qn×qg}{Ex:δ→qn×qg}{s:δ}:jkc En Ex (.inr s)=Ex s:=rfl
theorem jbb {c:qh}{n:Nat}{r:qn×qg}(hr:r.1≠.normal):qtp p c n (some r)=some r:=by
 obtain⟨x,st⟩:=r
 cases x with
 |normal=>exact absurd rfl hr
 |ret=>rfl
 |exit id=>rfl
theorem jik {n:Nat}{st:qg}{h':zb}(hn:n=h.length)(hs:st.heap=h++h')(h1:qce n st.env=true)(h2:ky n h=true):gc n st=⟨st.env,h⟩:=by
 obtain⟨ev,hp⟩:=st
 simp only at hs h1
 subst hs hn
 unfold gc
 cases h' with
 |nil=>simp
 |cons b h'=>
  have hle:Nat.ble (h++b::h').length h.length=false:=by
   rw[qde];simp
  simp only[hle,cF,List.take_left',h1,h2,Bool.and_self,cT]
def qpg (h:zb)(x i:Option qa):Option qp:=match x,i with
 |some (.str s),some j=>(match idx s.length j with
   |some j=>(match s[j]? with
    |some c=>val h (.int .u8 c.toNat)
    |none=>none)
   |none=>none)
 |_,_=>none
@[go_sem] theorem juc {x i:qf}:j9 p xc h0 al e h (.strIndex x i)=qpg h (zh e x) (zh e i):=by
 simp only[j9,zr,qpg]
 cases zh e x with
 |none=>rfl
 |some v=>cases v with
  |str s=>cases zh e i<;>rfl
  |_=>cases zh e i<;>rfl
theorem jae {s:List UInt8}{k:IntKind}{i:Nat}{c:UInt8}(hc:s[i]?=some c):qpg h (some (.str s)) (some (.int k (i:Int)))=some ⟨.int .u8 c.toNat,false,none,h⟩:=by
 have hl:i<s.length:=(List.getElem?_eq_some_iff.1 hc).1
 have:idx s.length (.int k (i:Int))=some i:=by rw[qo7,qvv hl]
 simp only[qpg,this,hc,val]
@[go_sem] theorem zca {a b:List UInt8}:qay .eql (.str a) (.str b)=some (.bool (decide (a=b))):=by
 by_cases hab:a=b<;>simp[qay,qsa,hab]
@[go_sem] theorem zbx {a b:List UInt8}:qay .neq (.str a) (.str b)=some (.bool (!decide (a=b))):=by
 by_cases hab:a=b<;>simp[qay,qsa,hab]
def qzi (h0 r:Nat)(h:zb)(x:Option qa):Option qp:=match x with
 |some (.str s)=>qdt (newBox h0 h r (.iter s 0)) (.ptr (h0+r) 0)
 |_=>none
@[go_sem] theorem jpo {r:Nat}{s:List UInt8}:qzi h0 r h (some (.str s))=qdt (newBox h0 h r (.iter s 0)) (.ptr (h0+r) 0):=rfl
@[go_sem] theorem j88 {r:Nat}{x:qf}:j9 p xc h0 al e h (.srange r x)=qzi h0 r h (zh e x):=by
 simp only[j9,zu,qzi]
 cases zh e x with
 |none=>rfl
 |some v=>cases v with
  |str s=>simp only[qdt];cases newBox h0 h r (.iter s 0)<;>rfl
  |_=>rfl
def qlf (h:zb)(b:Nat)(x:Option qr):Option qp:=match x with
 |some (.iter s pos)=>bif Nat.blt pos s.length then qdt (yv h b (.iter s (pos+(zo s pos).2))) (.tup [.bool true,.int .i64 pos,.int .i32 (zo s pos).1])else val h (.tup [.bool false])
 |_=>none
theorem jc1 {b pos:Nat}{s:List UInt8}(hp:pos<s.length):qlf h b (some (.iter s pos))=qdt (yv h b (.iter s (pos+(zo s pos).2))) (.tup [.bool true,.int .i64 pos,.int .i32 (zo s pos).1]):=by
 simp only[qlf,qf3,hp,decide_true,cT]
theorem q92 {b pos:Nat}{s:List UInt8}(hp:¬pos<s.length):qlf h b (some (.iter s pos))=some ⟨.tup [.bool false],false,none,h⟩:=by
 simp only[qlf,qf3,hp,decide_false,cF,val]
def q2u (h0:Nat)(al:Option (List Nat))(h:zb)(x:Option qa):Option qp:=match x with
 |some (.ptr b 0)=>ifR (ke h0 al b) (qlf h b h[b]?)
 |_=>none
@[go_sem] theorem jt9 {b:Nat}:q2u h0 al h (some (.ptr b 0))=ifR (ke h0 al b) (qlf h b h[b]?):=rfl
@[go_sem] theorem zb2 {x:qf}:j9 p xc h0 al e h (.snext x)=q2u h0 al h (zh e x):=by
 simp only[j9,zu,q2u]
 cases zh e x with
 |none=>rfl
 |some v=>cases v with
  |ptr b o=>
   cases o with
   |succ o=>rfl
   |zero=>
    simp only[ifR,kl,qlf,qdt]
    cases ke h0 al b with
    |false=>rfl
    |true=>
     simp only[cT]
     cases h[b]? with
     |none=>rfl
     |some x=>cases x with
      |iter s pos=>
       simp only[]
       cases Nat.blt pos s.length with
       |false=>rfl
       |true=>simp only[cT];cases yv h b (.iter s (pos+(zo s pos).2))<;>rfl
      |_=>rfl
  |_=>rfl
theorem q94 {s:List UInt8}{i:Nat}{c:UInt8}(hc:s[i]?=some c)(hl:c.toNat<128):zo s i=(c.toNat,1):=by
 have hg:(ByteArray.get! ⟨⟨s⟩⟩ (i+0))=c:=by
  obtain⟨h1,h2⟩:=List.getElem?_eq_some_iff.1 hc
  simp[ByteArray.get!,h1,h2]
 simp only[zo,Utf8.decode,hg,hl,if_true]
theorem q9o {s:List UInt8}{i:Nat}{c:UInt8}(hc:s[i]?=some c)(hl:¬c.toNat<128):128≤(zo s i).1:=by
 have hg:(ByteArray.get! ⟨⟨s⟩⟩ (i+0))=c:=by
  obtain⟨h1,h2⟩:=List.getElem?_eq_some_iff.1 hc
  simp[ByteArray.get!,h1,h2]
 simp only[zo,Utf8.decode,hg,hl,if_false,Utf8.runeError]
 split
 ·split<;>simp<;>omega
 ·split
  ·split
   ·next hh=>simp only[Bool.and_eq_true,decide_eq_true_eq]at hh;simp only;omega
   ·decide
  ·split
   ·split
    ·next hh=>simp only[Bool.and_eq_true,decide_eq_true_eq]at hh;simp only;omega
    ·decide
   ·decide
def qlj (h:zb)(zero:qa)(r:Option (Option (Nat×qa))):Option qp:=match r with
 |some (some (_,v))=>val h v
 |some none=>val h zero
 |none=>none
@[go_sem] theorem jxk {z v:qa}{i:Nat}:qlj h z (some (some (i,v)))=some ⟨v,false,none,h⟩:=rfl
@[go_sem] theorem jx9 {z:qa}:qlj h z (some none)=some ⟨z,false,none,h⟩:=rfl
def q1r (h:zb)(kd:Kd)(z kv:qa)(x:Option qr):Option qp:=match x with
 |some (.map es)=>qlj h z (kg kd kv es 0)
 |_=>none
@[go_sem] theorem j0j {kd:Kd}{z kv:qa}{es:List (qa×qa)}:q1r h kd z kv (some (.map es))=qlj h z (kg kd kv es 0):=rfl
def qy2 (h0:Nat)(al:Option (List Nat))(h:zb)(kd:Kd)(z:qa)(m k:Option qa):Option qp:=match m,k with
 |some (.map b),some kv=>ifR (ke h0 al b) (q1r h kd z kv h[b]?)
 |some .nilmap,some _=>val h z
 |_,_=>none
@[go_sem] theorem jpr {kd:Kd}{z kv:qa}{b:Nat}:qy2 h0 al h kd z (some (.map b)) (some kv)=ifR (ke h0 al b) (q1r h kd z kv h[b]?):=rfl
@[go_sem] theorem j8q {kd:Kd}{z:qa}{m k:qf}:j9 p xc h0 al e h (.lookup kd z false m k)=qy2 h0 al h kd z (zh e m) (zh e k):=by
 simp only[j9,qas,qy2]
 cases zh e m with
 |none=>cases zh e k<;>rfl
 |some v=>cases zh e k with
  |none=>cases v<;>rfl
  |some kv=>cases v with
   |map b=>
    simp only[ifR,kl,q1r,qlj]
    cases ke h0 al b with
    |false=>rfl
    |true=>
     simp only[cT]
     cases h[b]? with
     |none=>rfl
     |some x=>cases x with
      |map es=>
       simp only[]
       cases kg kd kv es 0 with
       |none=>rfl
       |some r=>cases r<;>rfl
      |_=>rfl
   |_=>rfl
def qy3 (h:zb)(b:Nat)(es:List (qa×qa))(kv v:qa)(r:Option (Option (Nat×qa))):Option qp:=match r with
 |some (some (i,_))=>qdt (yv h b (.map (qd3 es i v))) .undef
 |some none=>ifR (Nat.ble es.length 1073741824) (qdt (yv h b (.map (es++[(kv,v)]))) .undef)
 |none=>none
@[go_sem] theorem j0g {b:Nat}{es:List (qa×qa)}{kv v:qa}:qy3 h b es kv v (some none)=ifR (Nat.ble es.length 1073741824) (qdt (yv h b (.map (es++[(kv,v)]))) .undef):=rfl
def q7q (h:zb)(b:Nat)(kd:Kd)(kv v:qa)(x:Option qr):Option qp:=match x with
 |some (.map es)=>qy3 h b es kv v (kg kd kv es 0)
 |_=>none
@[go_sem] theorem j92 {b:Nat}{kd:Kd}{kv v:qa}{es:List (qa×qa)}:q7q h b kd kv v (some (.map es))=qy3 h b es kv v (kg kd kv es 0):=rfl
def jfb (h0:Nat)(al:Option (List Nat))(h:zb)(kd:Kd)(m k x:Option qa):Option qp:=match m,k,x with
 |some (.map b),some kv,some v=>ifR (ke h0 al b) (q7q h b kd kv v h[b]?)
 |_,_,_=>none
@[go_sem] theorem j3l {b:Nat}{kd:Kd}{kv v:qa}:jfb h0 al h kd (some (.map b)) (some kv) (some v)=ifR (ke h0 al b) (q7q h b kd kv v h[b]?):=rfl
@[go_sem] theorem jp3 {kd:Kd}{m k x:qf}:j9 p xc h0 al e h (.mapUpdate kd m k x)=jfb h0 al h kd (zh e m) (zh e k) (zh e x):=by
 simp only[j9,zu,jfb]
 cases zh e m with
 |none=>cases zh e k<;>cases zh e x<;>rfl
 |some v=>cases zh e k with
  |none=>cases v<;>cases zh e x<;>rfl
  |some kv=>cases zh e x with
   |none=>cases v<;>rfl
   |some xv=>cases v with
    |map b=>
     simp only[ifR,kl,q7q,qy3,qdt]
     cases ke h0 al b with
     |false=>rfl
     |true=>
      simp only[cT]
      cases h[b]? with
      |none=>rfl
      |some x=>cases x with
       |map es=>
        simp only[]
        cases kg kd kv es 0 with
        |none=>rfl
        |some r=>cases r with
         |none=>
          simp only[]
          cases Nat.ble es.length 1073741824 with
          |false=>rfl
          |true=>simp only[cT];cases yv h b (.map (es++[(kv,xv)]))<;>rfl
         |some r=>simp only[];cases yv h b (.map (qd3 es r.1 xv))<;>rfl
       |_=>rfl
    |_=>rfl
def jaf (agg:Bool)(len sz:Nat)(h:zb)(x i:Option qa):Option qp:=match x,i with
  |some (.ptr b o),some j=>(match idx len j with
   |some j=>val h (.ptr b (o+j*sz))
   |none=>none)
  |some (.vptr (.agg cs)),some j=>(match idx len j with
   |some j=>(match part agg cs (j*sz) sz with
    |some v=>bif Bool.xor agg v.isAgg then none else val h (.vptr v)
    |none=>none)
   |none=>none)
  |_,_=>none
@[go_sem] theorem jzi {agg:Bool}{len sz:Nat}{x i:qf}:j9 p xc h0 al e h (.indexArr agg len sz x i)=jaf agg len sz h (zh e x) (zh e i):=rfl
end
section
variable {p:qu}{xc:XC}{h0:Nat}{al:Option (List Nat)}{e:Env}{h:zb}{α:Type}
@[go_sem] theorem jkr {n s v:Nat}{xs:List qa}:qdl n (.vec s v xs)=true:=rfl
@[go_sem] theorem qym {n b v k:Nat}:below n (.vref b v k)=decide (b<n):=by
 simp only[below]
 cases hb:Nat.blt b n with
 |true=>simp[Nat.blt_eq.mp hb]
 |false=>
  have:¬b<n:=fun h=>by rw[Nat.blt_eq.mpr h]at hb;cases hb
  simp[this]
def kc (f:α→qa)(l:List α):List qa:=(l.map f).flatMap qa.flat
theorem j04 {f:α→qa}:kc f []=[]:=rfl
theorem qds {f:α→qa}{x:α}{l:List α}:kc f (x::l)=(f x).flat++kc f l:=rfl
theorem q1z {f:α→qa}{l m:List α}:kc f (l++m)=kc f l++kc f m:=by simp[kc]
theorem qgn {f:α→qa}{sz:Nat}(hf:∀x,(f x).flat.length=sz)(l:List α):(kc f l).length=l.length*sz:=by
 induction l with
 |nil=>simp[kc]
 |cons x l ih=>rw[qds,List.length_append,hf,ih,List.length_cons,Nat.succ_mul];omega
theorem qxx {f:α→qa}{sz:Nat}(hf:∀x,(f x).flat.length=sz):∀ {l:List α} {i:Nat},(kc f l).drop (i*sz)=kc f (l.drop i)
 | [],i=>by simp[kc]
 |x::l,0=>by simp
 |x::l,i+1=>by
  rw[qds,List.drop_succ_cons,←qxx hf,show(i+1)*sz=(f x).flat.length+i*sz by rw[hf,Nat.succ_mul];omega,List.drop_append]
  simp
theorem q9h {f:α→qa}{sz:Nat}(hf:∀x,(f x).flat.length=sz):∀ {l:List α} {i:Nat},(kc f l).take (i*sz)=kc f (l.take i)
 | [],i=>by simp[kc]
 |x::l,0=>by simp[kc]
 |x::l,i+1=>by
  rw[qds,List.take_succ_cons,qds,←q9h hf,show(i+1)*sz=(f x).flat.length+i*sz by rw[hf,Nat.succ_mul];omega,List.take_append]
  congr 1
  ·exact List.take_of_length_le (by omega)
  ·congr 1;omega
theorem jfk {f:α→qa}{sz i:Nat}{l:List α}{x:α}(hf:∀x,(f x).flat.length=sz)(hx:l[i]?=some x):(kc f l).drop (i*sz)=(f x).flat++kc f (l.drop (i+1)):=by
 rw[qxx hf]
 have hlt:=(List.getElem?_eq_some_iff.1 hx).1
 rw[List.drop_eq_getElem_cons hlt,qds,(List.getElem?_eq_some_iff.1 hx).2]
theorem qg3 {f:α→qa}{sz i o n:Nat}{l:List α}{x:α}(hf:∀x,(f x).flat.length=sz)(hx:l[i]?=some x)(ho:o+n≤sz):((kc f l).drop (i*sz+o)).take n=((f x).flat.drop o).take n∧i*sz+o+n≤(kc f l).length:=by
 have hlt:=(List.getElem?_eq_some_iff.1 hx).1
 refine⟨?_,?_⟩
 ·rw[←List.drop_drop,jfk hf hx,List.drop_append,List.take_append]
  have h1:(f x).flat.length=sz:=hf x
  have h2:n-((f x).flat.drop o).length=0:=by rw[List.length_drop];omega
  rw[h2,List.take_zero,List.append_nil]
 ·rw[qgn hf]
  have:(i+1)*sz≤l.length*sz:=Nat.mul_le_mul_right _ hlt
  rw[Nat.succ_mul]at this
  omega
theorem q0h {f:α→qa}{sz i o:Nat}{l:List α}{x y:α}{us:List qa}(hf:∀x,(f x).flat.length=sz)(hx:l[i]?=some x)(ho:o+us.length≤sz)(hy:(f y).flat=(f x).flat.take o++us++(f x).flat.drop (o+us.length)):
  (kc f l).take (i*sz+o)++us++(kc f l).drop (i*sz+o+us.length)=kc f (l.set i y):=by
 have hlt:=(List.getElem?_eq_some_iff.1 hx).1
 have hsplit:l=l.take i++x::l.drop (i+1):=by
  conv=>lhs;rw[←List.take_append_drop i l,List.drop_eq_getElem_cons hlt,(List.getElem?_eq_some_iff.1 hx).2]
 have hset:l.set i y=l.take i++y::l.drop (i+1):=by rw[List.set_eq_take_append_cons_drop,if_pos hlt]
 have hl:(kc f (l.take i)).length=i*sz:=by rw[qgn hf,List.length_take,Nat.min_eq_left (by omega)]
 have h1:(f x).flat.length=sz:=hf x
 rw[hset]
 conv=>lhs;rw[hsplit]
 simp only[q1z,qds]
 rw[hy,List.take_append,List.drop_append,hl]
 have e1:(kc f (l.take i)).take (i*sz+o)=kc f (l.take i):=List.take_of_length_le (by omega)
 have e2:(kc f (l.take i)).drop (i*sz+o+us.length)=[]:=List.drop_eq_nil_of_le (by omega)
 rw[e1,e2,List.nil_append,show i*sz+o-i*sz=o by omega,show i*sz+o+us.length-i*sz=o+us.length by omega,List.take_append,List.drop_append]
 have e3:o-(f x).flat.length=0:=by omega
 have e4:o+us.length-(f x).flat.length=0:=by omega
 rw[e3,e4,List.take_zero,List.drop_zero,List.append_nil]
 simp[List.append_assoc]
def rcl (f:α→qa)(l:List α):List (qa×Bool):=cellsOf (kc f l)
theorem qah {vs:List qa}:(cellsOf vs).map (·.1)=vs:=by
 induction vs with
 |nil=>rfl
 |cons v vs ih=>simp only[cellsOf,List.map_cons]at ih ⊢;rw[ih]
theorem jr6 {f:α→qa}{sz:Nat}(hf:∀x,(f x).flat.length=sz)(l:List α):(rcl f l).length=l.length*sz:=by simp[rcl,cellsOf,qgn hf]
theorem qhi {f:α→qa}{sz i o n:Nat}{l:List α}{x:α}(hf:∀x,(f x).flat.length=sz)(hx:l[i]?=some x)(ho:o+n≤sz):kn (rcl f l) (i*sz+o) n=some (((f x).flat.drop o).take n):=by
 obtain⟨h1,h2⟩:=qg3 hf hx ho
 unfold kn
 have:(rcl f l).length=(kc f l).length:=by simp[rcl,cellsOf]
 rw[this,Nat.ble_eq_true_of_le h2]
 simp only[cT,Option.some.injEq]
 rw[←h1]
 simp only[rcl,List.map_take,List.map_drop,qah]
theorem zb5 {f:α→qa}{sz i:Nat}{l:List α}{x:α}(hf:∀x,(f x).flat.length=sz)(hx:l[i]?=some x):kn (rcl f l) (i*sz) sz=some (f x).flat:=by
 have:=qhi (o:=0) (n:=sz) hf hx (by omega)
 rw[Nat.add_zero,List.drop_zero,List.take_of_length_le (by rw[hf];exact Nat.le_refl _)]at this
 exact this
theorem qdp {f:α→qa}{sz i o:Nat}{l:List α}{x y:α}{us:List qa}(hf:∀x,(f x).flat.length=sz)(hx:l[i]?=some x)(ho:o+us.length≤sz)(hs:us.all zm=true)(hy:(f y).flat=(f x).flat.take o++us++(f x).flat.drop (o+us.length)):
  yu (rcl f l) (i*sz+o) us=some (rcl f (l.set i y)):=by
 obtain⟨_,h2⟩:=qg3 hf hx ho
 unfold yu
 have:(rcl f l).length=(kc f l).length:=by simp[rcl,cellsOf]
 rw[this,Nat.ble_eq_true_of_le h2,hs]
 simp only[Bool.and_self,cT,Option.some.injEq]
 rw[show rcl f (l.set i y)=cellsOf (kc f (l.set i y))from rfl,←q0h hf hx ho hy]
 simp[rcl,cellsOf,List.map_append,List.map_take,List.map_drop]
theorem q5d {f:α→qa}{sz i o:Nat}{l:List α}{x y:α}{u:qa}(hf:∀x,(f x).flat.length=sz)(hx:l[i]?=some x)(ho:o<sz)(hy:(f y).flat=(f x).flat.set o u):(rcl f l).set (i*sz+o) (u,false)=rcl f (l.set i y):=by
 have hl:(f x).flat.length=sz:=hf x
 have h2:=(qg3 (n:=1) (o:=o) hf hx (by omega)).2
 have:=q0h (us:=[u]) (y:=y) (o:=o) hf hx (by simp;omega) (by rw[hy,List.set_eq_take_append_cons_drop,if_pos (show o<(f x).flat.length by omega)];simp)
 rw[show rcl f (l.set i y)=cellsOf (kc f (l.set i y))from rfl,←this]
 simp only[rcl,cellsOf,List.length_cons,List.length_nil]
 rw[List.set_eq_take_append_cons_drop,if_pos (by simp;omega)]
 simp[List.map_append,List.map_take,List.map_drop]
theorem jq5 {f:α→qa}{sz i o n b v:Nat}{l:List α}{x:α}(hf:∀x,(f x).flat.length=sz)(hb:h[b]?=some (.vec sz v (l.map f)))(hal:qhe h0 al b=true)(hx:l[i]?=some x)(ho:o+n≤sz):
  qa5 h0 al true n h (some (.vel b v (i*sz+o)))=some ⟨.agg (((f x).flat.drop o).take n),false,none,h⟩:=by
 obtain⟨h1,h2⟩:=qg3 hf hx ho
 have hg:kl h b=some (.vec sz v (l.map f)):=hb
 show(bif qhe h0 al b then(match kl h b with
   |some (.vec _ ver' xs)=>bif Nat.beq v ver'&&Nat.ble (i*sz+o+n) (xs.flatMap qa.flat).length then(bif true then val h (.agg (((xs.flatMap qa.flat).drop (i*sz+o)).take n))else(match((xs.flatMap qa.flat).drop (i*sz+o)).take n with
     | [v]=>val h v
     |_=>none))else none
   |_=>none)else none)=_
 rw[hal,hg]
 simp only[cT,Nat.beq_refl,Bool.true_and]
 have h3:Nat.ble (i*sz+o+n) ((l.map f).flatMap qa.flat).length=true:=Nat.ble_eq_true_of_le h2
 rw[h3]
 simp only[cT,val]
 have h4:(((l.map f).flatMap qa.flat).drop (i*sz+o)).take n=((f x).flat.drop o).take n:=h1
 rw[h4]
theorem qv7 {f:α→qa}{sz i b v:Nat}{l:List α}{x:α}(hf:∀x,(f x).flat.length=sz)(hb:h[b]?=some (.vec sz v (l.map f)))(hal:qhe h0 al b=true)(hx:l[i]?=some x):
  qa5 h0 al true sz h (some (.vel b v (i*sz)))=some ⟨.agg (f x).flat,false,none,h⟩:=by
 have:=jq5 (al:=al) (h0:=h0) (o:=0) (n:=sz) hf hb hal hx (by omega)
 rw[Nat.add_zero,List.drop_zero,List.take_of_length_le (by rw[hf];exact Nat.le_refl _)]at this
 exact this
theorem q17 {f:α→qa}{sz i o b v:Nat}{l:List α}{x:α}{u:qa}(hf:∀x,(f x).flat.length=sz)(hb:h[b]?=some (.vec sz v (l.map f)))(hal:qhe h0 al b=true)(hx:l[i]?=some x)(hu:(f x).flat[o]?=some u):
  qa5 h0 al false 1 h (some (.vel b v (i*sz+o)))=some ⟨u,false,none,h⟩:=by
 have hlt:=(List.getElem?_eq_some_iff.1 hu).1
 rw[hf]at hlt
 obtain⟨h1,h2⟩:=qg3 (n:=1) hf hx (by omega:o+1≤sz)
 have hg:kl h b=some (.vec sz v (l.map f)):=hb
 show(bif qhe h0 al b then(match kl h b with
   |some (.vec _ ver' xs)=>bif Nat.beq v ver'&&Nat.ble (i*sz+o+1) (xs.flatMap qa.flat).length then(bif false then val h (.agg (((xs.flatMap qa.flat).drop (i*sz+o)).take 1))else(match((xs.flatMap qa.flat).drop (i*sz+o)).take 1 with
     | [v]=>val h v
     |_=>none))else none
   |_=>none)else none)=_
 rw[hal,hg]
 simp only[cT,Nat.beq_refl,Bool.true_and]
 have h3:Nat.ble (i*sz+o+1) ((l.map f).flatMap qa.flat).length=true:=Nat.ble_eq_true_of_le h2
 have h4:(((l.map f).flatMap qa.flat).drop (i*sz+o)).take 1=[u]:=by
  show((kc f l).drop (i*sz+o)).take 1=[u]
  have hol:=(List.getElem?_eq_some_iff.1 hu).1
  rw[h1,List.drop_eq_getElem_cons hol,(List.getElem?_eq_some_iff.1 hu).2]
  rfl
 rw[h3,h4]
 rfl
def qbw (h0:Nat)(r sz bytes:Nat)(h:zb)(x y:Option qa):Option qp:=match x,y with
 |some (.list true _ []),some vy=>(match qaa sz vy with
   |some ys=>
    bif Nat.ble ys.length 1073741824&&Nat.ble bytes 4096&&Nat.blt 0 sz&&!ys.isEmpty&&z8 0 ys&&Nat.blt r 1000 then
     (match newBox h0 h r (.vec sz 0 ys)with
      |some h'=>val h' (.vref (h0+r) 0 ys.length)
      |none=>none)else none
   |none=>none)
 |some (.vref b ver len),some vy=>(match kl h b with
  |some (.vec sz' ver' xs)=>(match qaa sz vy with
   |some ys=>
    bif Nat.beq ver ver'&&Nat.beq sz sz'&&Nat.ble len xs.length&&Nat.ble (len+ys.length) 1073741824&&Nat.ble bytes 4096&&Nat.blt 0 sz&&z8 0 ys&&Nat.blt r 1000 then
     (match yv h b (.vec sz (ver+1) (xs.take len++ys))with
      |some h'=>val h' (.vref b (ver+1) (len+ys.length))
      |none=>none)else none
   |none=>none)
  |_=>none)
 |_,_=>none
@[go_sem] theorem zck {r sz bytes:Nat}{x y:qf}:j9 p xc h0 al e h (.vapp r sz bytes x y)=qbw h0 r sz bytes h (zh e x) (zh e y):=rfl
theorem qjo {r sz z bytes:Nat}{ys:List qa}{b:Bool}{h':zb}(hl:ys.length≤1073741824)(hb:bytes≤4096)(hz:0<sz)(hne:ys≠[])(hp:z8 0 ys=true)(hr:r<1000)(hn:newBox h0 h r (.vec sz 0 ys)=some h'):qbw h0 r sz bytes h (some (.list true z [])) (some (.list b sz ys))=some ⟨.vref (h0+r) 0 ys.length,false,none,h'⟩:=by
 have h5:ys.isEmpty=false:=by cases ys<;>simp at hne ⊢
 simp only[qbw,qaa,Nat.beq_refl,Bool.true_or,cT,Nat.ble_eq_true_of_le hl,Nat.ble_eq_true_of_le hb,Nat.blt_eq.mpr hz,h5,hp,Nat.blt_eq.mpr hr,Bool.not_false,Bool.and_self,hn]
 rfl
theorem jag {r sz bytes b v len:Nat}{xs ys:List qa}{c:Bool}(hbx:h[b]?=some (.vec sz v xs))(hlen:len≤xs.length)(hl:len+ys.length≤1073741824)(hb:bytes≤4096)(hz:0<sz)(hp:z8 0 ys=true)(hr:r<1000):
  qbw h0 r sz bytes h (some (.vref b v len)) (some (.list c sz ys))=some ⟨.vref b (v+1) (len+ys.length),false,none,h.set b (.vec sz (v+1) (xs.take len++ys))⟩:=by
 have hg:kl h b=some (.vec sz v xs):=hbx
 have hlt:=(List.getElem?_eq_some_iff.1 hbx).1
 simp only[qbw,hg,qaa,Nat.beq_refl,Bool.true_or,cT,Nat.ble_eq_true_of_le hlen,Nat.ble_eq_true_of_le hl,Nat.ble_eq_true_of_le hb,Nat.blt_eq.mpr hz,hp,Nat.blt_eq.mpr hr,Bool.and_self,yv,Nat.blt_eq.mpr hlt]
 rfl
theorem jb0 {sz b v len i:Nat}{k:IntKind}(hi:i<len):qd2 sz h (some (.vref b v len)) (some (.int k (i:Int)))=some ⟨.vel b v (i*sz),false,none,h⟩:=by
 have:idx len (.int k (i:Int))=some i:=by rw[qo7];exact qvv hi
 simp only[qd2,this]
 rfl
@[go_sem] theorem j20 {n:Nat}:j9 p xc h0 al e h (.valloc n)=some ⟨.pend n,true,none,h⟩:=rfl
def qtk (n:Nat)(h:zb)(x:Option (qa×Bool))(y:Option qa):Option qp:=match x,y with
 |some (.pend m,true),some v=>ifR (Nat.beq m n&&Nat.beq v.flat.length n&&v.flat.all zm) (some ⟨.vptr v,false,none,h⟩)
 |_,_=>none
theorem q3s {n m:Nat}{v:qa}:qtk n h (some (.pend m,true)) (some v)=ifR (Nat.beq m n&&Nat.beq v.flat.length n&&v.flat.all zm) (some ⟨.vptr v,false,none,h⟩):=rfl
@[go_sem] theorem j16 {n:Nat}{v:qa}(hv:(Nat.beq v.flat.length n&&v.flat.all zm)=true):qtk n h (some (.pend n,true)) (some v)=some ⟨.vptr v,false,none,h⟩:=by
 rw[q3s,Nat.beq_refl,Bool.true_and,hv];rfl
@[go_sem] theorem j4u {n s:Nat}{x:qf}:j9 p xc h0 al e h (.vstore n s x)=qtk n h (yl s e) (zh e x):=by
 simp only[j9,zr,qtk]
 split
 ·rename_i m v h1 h2
  rw[h1,h2]
  simp only[ifR]
  cases (Nat.beq m n&&Nat.beq v.flat.length n&&v.flat.all zm)<;>rfl
 ·rename_i hno
  split
  ·rename_i m v h1 h2
   exact absurd h2 (hno m v h1)
  ·rfl
end
end Go.Abs
