/- Equations of the executor, third part. -/
import Derived.Test.YtimdocpnkimlfaaGreatDoorAbsJ
set_option linter.unusedVariables false
set_option linter.unusedSimpArgs false
open List renaming getElem?_eq_some_iff→I,set_eq_take_append_cons_drop→Ek,take_of_length_le→E3,drop_eq_getElem_cons→Gc,drop_append→Hz,take_append→H2,drop_zero→Jn,map_take→Jp,map_drop→Jq,length_cons→N9,append_nil→Oc,map_append→Od,take_zero→Oe
open Option renaming some→Ea,none→Ec
open Nat renaming ble_eq_true_of_le→Eb,ble→Ha,beq→Hb,blt_eq→Hy,beq_refl→Ib,succ_mul→If,blt→Jg
open Bool renaming false→Ga,true→Hu,and_self→N1,true_and→N4,and_eq_true→N5,true_or→Og
namespace Go.Abs
section
variable {p:jg}{xc:XC}{h0:Nat}{al:Option (List Nat)}{e:Env}{h:ql}{α:Type}
def ZK {γ δ:Type}(En:γ→je×aV)(Ex:δ→je×aV):γ⊕δ→je×aV
 | .inl s=>En s
 | .inr d=>Ex d
@[simp] theorem jzo {γ δ:Type}{En:γ→je×aV}{Ex:δ→je×aV}{s:γ}:ZK En Ex (.inl s)=En s:=rfl
@[simp] theorem j3b {γ δ:Type}{En:γ→je×aV}{Ex:δ→je×aV}{s:δ}:ZK En Ex (.inr s)=Ex s:=rfl
theorem q62 {c n r}(hr:r.1≠.normal):Bw p c n (Ea r)=Ea r:=by
 obtain⟨x,st⟩:=r
 cases x with
 |normal=>exact absurd rfl hr
 |ret=>rfl
 |exit id=>rfl
def vR (h:ql)(x i:Option AVal):Option aK:=match x,i with
 |some (.str s),Ea j=>(match idx s.length j with
   |some j=>(match s[j]? with
    |some c=>val h (.int .u8 c.toNat)
    |none=>Ec)
   |none=>Ec)
 |_,_=>Ec
@[go_sem] theorem jpe {x i}:qb p xc h0 al e h (.dB x i)=vR h (qg e x) (qg e i):=by
 simp only[qb,qo,vR]
 cases qg e x with
 |none=>rfl
 |some v=>cases v with
  |str s=>cases qg e i<;>rfl
  |_=>cases qg e i<;>rfl
theorem q63 {s:List UInt8}{k:IntKind}{i:Nat}{c:UInt8}(hc:s[i]?=Ea c):vR h (Ea (.str s)) (Ea (.int k (i:Int)))=Ea ⟨.int .u8 c.toNat,Ga,Ec,h⟩:=by
 have hl:i<s.length:=(I.1 hc).1
 have:idx s.length (.int k (i:Int))=Ea i:=by rw[vP,ZF hl]
 simp only[vR,this,hc,val]
@[go_sem] theorem j31 {a b}:zc .eql (.str a) (.str b)=Ea (.bool (decide (a=b))):=by
 by_cases oq:a=b<;>simp[zc,AR,oq]
@[go_sem] theorem j3q {a b}:zc .neq (.str a) (.str b)=Ea (.bool (!decide (a=b))):=by
 by_cases oq:a=b<;>simp[zc,AR,oq]
def Qf (h0 r:Nat)(h:ql)(x:Option AVal):Option aK:=match x with
 |some (.str s)=>gY (aG h0 h r (.iter s 0)) (.ptr (h0+r) 0)
 |_=>Ec
@[go_sem] theorem jl0 {r s}:Qf h0 r h (Ea (.str s))=gY (aG h0 h r (.iter s 0)) (.ptr (h0+r) 0):=rfl
@[go_sem] theorem jxt {r x}:qb p xc h0 al e h (.cR r x)=Qf h0 r h (qg e x):=by
 simp only[qb,qp,Qf]
 cases qg e x with
 |none=>rfl
 |some v=>cases v with
  |str s=>simp only[gY];cases aG h0 h r (.iter s 0)<;>rfl
  |_=>rfl
def qZ (h:ql)(b:Nat)(x:Option aJ):Option aK:=match x with
 |some (.iter s pos)=>bif Jg pos s.length then gY (jh h b (.iter s (pos+(qf s pos).2))) (.av [.bool Hu,.int .i64 pos,.int .i32 (qf s pos).1])else val h (.av [.bool Ga])
 |_=>Ec
theorem jb5 {b pos s}(hp:pos<s.length):qZ h b (Ea (.iter s pos))=gY (jh h b (.iter s (pos+(qf s pos).2))) (.av [.bool Hu,.int .i64 pos,.int .i32 (qf s pos).1]):=by
 simp only[qZ,qX,hp,decide_true,cond_true]
theorem q55 {b pos s}(hp:¬pos<s.length):qZ h b (Ea (.iter s pos))=Ea ⟨.av [.bool Ga],Ga,Ec,h⟩:=by
 simp only[qZ,qX,hp,decide_false,cond_false,val]
def Qg (h0:Nat)(al:Option (List Nat))(h:ql)(x:Option AVal):Option aK:=match x with
 |some (.ptr b 0)=>cj (jm h0 al b) (qZ h b h[b]?)
 |_=>Ec
@[go_sem] theorem jta {b}:Qg h0 al h (Ea (.ptr b 0))=cj (jm h0 al b) (qZ h b h[b]?):=rfl
@[go_sem] theorem j3z {x}:qb p xc h0 al e h (.eK x)=Qg h0 al h (qg e x):=by
 simp only[qb,qp,Qg]
 cases qg e x with
 |none=>rfl
 |some v=>cases v with
  |ptr b o=>
   cases o with
   |succ o=>rfl
   |zero=>
    simp only[cj,j6,qZ,gY]
    cases jm h0 al b with
    |false=>rfl
    |true=>
     simp only[cond_true]
     cases h[b]? with
     |none=>rfl
     |some x=>cases x with
      |iter s pos=>
       simp only[]
       cases Jg pos s.length with
       |false=>rfl
       |true=>simp only[cond_true];cases jh h b (.iter s (pos+(qf s pos).2))<;>rfl
      |_=>rfl
  |_=>rfl
theorem IC {s i c}(hc:s[i]?=Ea c)(hl:c.toNat<128):qf s i=(c.toNat,1):=by
 have hg:(ByteArray.get! ⟨⟨s⟩⟩ (i+0))=c:=by
  obtain⟨h1,h2⟩:=I.1 hc
  simp[ByteArray.get!,h1,h2]
 simp only[qf,Utf8.decode,hg,hl,if_true]
theorem Qh {s i c}(hc:s[i]?=Ea c)(hl:¬c.toNat<128):128≤(qf s i).1:=by
 have hg:(ByteArray.get! ⟨⟨s⟩⟩ (i+0))=c:=by
  obtain⟨h1,h2⟩:=I.1 hc
  simp[ByteArray.get!,h1,h2]
 simp only[qf,Utf8.decode,hg,hl,if_false,Utf8.runeError]
 split
 ·split<;>simp<;>omega
 ·split
  ·split
   ·next hh=>simp only[N5,decide_eq_true_eq]at hh;simp only;omega
   ·decide
  ·split
   ·split
    ·next hh=>simp only[N5,decide_eq_true_eq]at hh;simp only;omega
    ·decide
   ·decide
def IE (h:ql)(zero:AVal)(r:Option (Option (Nat×AVal))):Option aK:=match r with
 |some (Ea (_,v))=>val h v
 |some Ec=>val h zero
 |none=>Ec
@[go_sem] theorem jq1 {z v i}:IE h z (Ea (Ea (i,v)))=Ea ⟨v,Ga,Ec,h⟩:=rfl
@[go_sem] theorem jq6 {z}:IE h z (Ea Ec)=Ea ⟨z,Ga,Ec,h⟩:=rfl
def Qi (h:ql)(kd:Kd)(z kv:AVal)(x:Option aJ):Option aK:=match x with
 |some (.map es)=>IE h z (zb kd kv es 0)
 |_=>Ec
@[go_sem] theorem jvo {kd z kv es}:Qi h kd z kv (Ea (.map es))=IE h z (zb kd kv es 0):=rfl
def jdy (h0:Nat)(al:Option (List Nat))(h:ql)(kd:Kd)(z:AVal)(m k:Option AVal):Option aK:=match m,k with
 |some (.map b),Ea kv=>cj (jm h0 al b) (Qi h kd z kv h[b]?)
 |some .bB,Ea _=>val h z
 |_,_=>Ec
@[go_sem] theorem jln {kd z kv b}:jdy h0 al h kd z (Ea (.map b)) (Ea kv)=cj (jm h0 al b) (Qi h kd z kv h[b]?):=rfl
def Qj (h:ql)(b:Nat)(es:List (AVal×AVal))(kv v:AVal)(r:Option (Option (Nat×AVal))):Option aK:=match r with
 |some (Ea (i,_))=>gY (jh h b (.map (rN es i v))) .undef
 |some Ec=>cj (Ha es.length 1073741824) (gY (jh h b (.map (es++[(kv,v)]))) .undef)
 |none=>Ec
@[go_sem] theorem jvt {b es kv v}:Qj h b es kv v (Ea Ec)=cj (Ha es.length 1073741824) (gY (jh h b (.map (es++[(kv,v)]))) .undef):=rfl
def Qk (h:ql)(b:Nat)(kd:Kd)(kv v:AVal)(x:Option aJ):Option aK:=match x with
 |some (.map es)=>Qj h b es kv v (zb kd kv es 0)
 |_=>Ec
@[go_sem] theorem jyw {b kd kv v es}:Qk h b kd kv v (Ea (.map es))=Qj h b es kv v (zb kd kv es 0):=rfl
def j3d (h0:Nat)(al:Option (List Nat))(h:ql)(kd:Kd)(m k x:Option AVal):Option aK:=match m,k,x with
 |some (.map b),Ea kv,Ea v=>cj (jm h0 al b) (Qk h b kd kv v h[b]?)
 |_,_,_=>Ec
@[go_sem] theorem jxr {b kd kv v}:j3d h0 al h kd (Ea (.map b)) (Ea kv) (Ea v)=cj (jm h0 al b) (Qk h b kd kv v h[b]?):=rfl
def q52 (agg:Bool)(len sz:Nat)(h:ql)(x i:Option AVal):Option aK:=match x,i with
  |some (.ptr b o),Ea j=>(match idx len j with
   |some j=>val h (.ptr b (o+j*sz))
   |none=>Ec)
  |some (.ax (.agg cs)),Ea j=>(match idx len j with
   |some j=>(match part agg cs (j*sz) sz with
    |some v=>bif Bool.xor agg v.isAgg then Ec else val h (.ax v)
    |none=>Ec)
   |none=>Ec)
  |_,_=>Ec
@[go_sem] theorem jpq {agg len sz x i}:qb p xc h0 al e h (.dZ agg len sz x i)=q52 agg len sz h (qg e x) (qg e i):=rfl
end
section
variable {p:jg}{xc:XC}{h0:Nat}{al:Option (List Nat)}{e:Env}{h:ql}{α:Type}
@[go_sem] theorem jg2 {n s v xs}:AU n (.vec s v xs)=Hu:=rfl
@[go_sem] theorem jpf {n b v k}:below n (.aA b v k)=decide (b<n):=by
 simp only[below]
 cases hb:Jg b n with
 |true=>simp[Hy.mp hb]
 |false=>
  have:¬b<n:=fun h=>by rw[Hy.mpr h]at hb;cases hb
  simp[this]
def zx (f:α→AVal)(l:List α):List AVal:=(l.map f).flatMap AVal.flat
theorem jva {f:α→AVal}:zx f []=[]:=rfl
theorem BA {f:α→AVal}{x l}:zx f (x::l)=(f x).flat++zx f l:=rfl
theorem qzf {f:α→AVal}{l m}:zx f (l++m)=zx f l++zx f m:=by simp[zx]
theorem Ql {f:α→AVal}{sz}(hf:∀x,(f x).flat.length=sz)(l:List α):(zx f l).length=l.length*sz:=by
 induction l with
 |nil=>simp[zx]
 |cons x l ih=>rw[BA,List.length_append,hf,ih,N9,If];omega
theorem ZL {f:α→AVal}{sz}(hf:∀x,(f x).flat.length=sz):∀ {l:List α} {i:Nat},(zx f l).drop (i*sz)=zx f (l.drop i)
 | [],i=>by simp[zx]
 |x::l,0=>by simp
 |x::l,i+1=>by
  rw[BA,List.drop_succ_cons,←ZL hf,show(i+1)*sz=(f x).flat.length+i*sz by rw[hf,If];omega,Hz]
  simp
theorem q4c {f:α→AVal}{sz}(hf:∀x,(f x).flat.length=sz):∀ {l:List α} {i:Nat},(zx f l).take (i*sz)=zx f (l.take i)
 | [],i=>by simp[zx]
 |x::l,0=>by simp[zx]
 |x::l,i+1=>by
  rw[BA,List.take_succ_cons,BA,←q4c hf,show(i+1)*sz=(f x).flat.length+i*sz by rw[hf,If];omega,H2]
  congr 1
  ·exact E3 (by omega)
  ·congr 1;omega
theorem jan {f:α→AVal}{sz i l x}(hf:∀x,(f x).flat.length=sz)(hx:l[i]?=Ea x):(zx f l).drop (i*sz)=(f x).flat++zx f (l.drop (i+1)):=by
 rw[ZL hf]
 have aC:=(I.1 hx).1
 rw[Gc aC,BA,(I.1 hx).2]
theorem Ey {f:α→AVal}{sz i o n l x}(hf:∀x,(f x).flat.length=sz)(hx:l[i]?=Ea x)(ho:o+n≤sz):((zx f l).drop (i*sz+o)).take n=((f x).flat.drop o).take n∧i*sz+o+n≤(zx f l).length:=by
 have aC:=(I.1 hx).1
 refine⟨?_,?_⟩
 ·rw[←List.drop_drop,jan hf hx,Hz,H2]
  have h1:(f x).flat.length=sz:=hf x
  have h2:n-((f x).flat.drop o).length=0:=by rw[List.length_drop];omega
  rw[h2,Oe,Oc]
 ·rw[Ql hf]
  have:(i+1)*sz≤l.length*sz:=Nat.mul_le_mul_right _ aC
  rw[If]at this
  omega
theorem ZM {f:α→AVal}{sz i o l x y us}(hf:∀x,(f x).flat.length=sz)(hx:l[i]?=Ea x)(ho:o+us.length≤sz)(hy:(f y).flat=(f x).flat.take o++us++(f x).flat.drop (o+us.length)):
  (zx f l).take (i*sz+o)++us++(zx f l).drop (i*sz+o+us.length)=zx f (l.set i y):=by
 have aC:=(I.1 hx).1
 have vS:l=l.take i++x::l.drop (i+1):=by
  conv=>lhs;rw[←List.take_append_drop i l,Gc aC,(I.1 hx).2]
 have aZ:l.set i y=l.take i++y::l.drop (i+1):=by rw[Ek,if_pos aC]
 have hl:(zx f (l.take i)).length=i*sz:=by rw[Ql hf,List.length_take,Nat.min_eq_left (by omega)]
 have h1:(f x).flat.length=sz:=hf x
 rw[aZ]
 conv=>lhs;rw[vS]
 simp only[qzf,BA]
 rw[hy,H2,Hz,hl]
 have e1:(zx f (l.take i)).take (i*sz+o)=zx f (l.take i):=E3 (by omega)
 have e2:(zx f (l.take i)).drop (i*sz+o+us.length)=[]:=List.drop_eq_nil_of_le (by omega)
 rw[e1,e2,List.nil_append,show i*sz+o-i*sz=o by omega,show i*sz+o+us.length-i*sz=o+us.length by omega,H2,Hz]
 have e3:o-(f x).flat.length=0:=by omega
 have e4:o+us.length-(f x).flat.length=0:=by omega
 rw[e3,e4,Oe,Jn,Oc]
 simp[List.append_assoc]
def kS (f:α→AVal)(l:List α):List (AVal×Bool):=cellsOf (zx f l)
theorem qzo {vs}:(cellsOf vs).map (·.1)=vs:=by
 induction vs with
 |nil=>rfl
 |cons v vs ih=>simp only[cellsOf,List.map_cons]at ih ⊢;rw[ih]
theorem jtk {f sz}(hf:∀x,(f x).flat.length=sz)(l:List α):(kS f l).length=l.length*sz:=by simp[kS,cellsOf,Ql hf]
theorem jgc {f:α→AVal}{sz i o n l x}(hf:∀x,(f x).flat.length=sz)(hx:l[i]?=Ea x)(ho:o+n≤sz):zp (kS f l) (i*sz+o) n=Ea (((f x).flat.drop o).take n):=by
 obtain⟨h1,h2⟩:=Ey hf hx ho
 unfold zp
 have:(kS f l).length=(zx f l).length:=by simp[kS,cellsOf]
 rw[this,Eb h2]
 simp only[cond_true,Ea.injEq]
 rw[←h1]
 simp only[kS,Jp,Jq,qzo]
theorem j3t {f:α→AVal}{sz i l x}(hf:∀x,(f x).flat.length=sz)(hx:l[i]?=Ea x):zp (kS f l) (i*sz) sz=Ea (f x).flat:=by
 have:=jgc (o:=0) (n:=sz) hf hx (by omega)
 rw[Nat.add_zero,Jn,E3 (by rw[hf];exact Nat.le_refl _)]at this
 exact this
theorem j4w {f:α→AVal}{sz i o l x y us}(hf:∀x,(f x).flat.length=sz)(hx:l[i]?=Ea x)(ho:o+us.length≤sz)(hs:us.all qk=Hu)(hy:(f y).flat=(f x).flat.take o++us++(f x).flat.drop (o+us.length)):
  z7 (kS f l) (i*sz+o) us=Ea (kS f (l.set i y)):=by
 obtain⟨_,h2⟩:=Ey hf hx ho
 unfold z7
 have:(kS f l).length=(zx f l).length:=by simp[kS,cellsOf]
 rw[this,Eb h2,hs]
 simp only[N1,cond_true,Ea.injEq]
 rw[show kS f (l.set i y)=cellsOf (zx f (l.set i y))from rfl,←ZM hf hx ho hy]
 simp[kS,cellsOf,Od,Jp,Jq]
theorem jml {f:α→AVal}{sz i o l x y u}(hf:∀x,(f x).flat.length=sz)(hx:l[i]?=Ea x)(ho:o<sz)(hy:(f y).flat=(f x).flat.set o u):(kS f l).set (i*sz+o) (u,Ga)=kS f (l.set i y):=by
 have hl:(f x).flat.length=sz:=hf x
 have h2:=(Ey (n:=1) (o:=o) hf hx (by omega)).2
 have:=ZM (us:=[u]) (y:=y) (o:=o) hf hx (by simp;omega) (by rw[hy,Ek,if_pos (show o<(f x).flat.length by omega)];simp)
 rw[show kS f (l.set i y)=cellsOf (zx f (l.set i y))from rfl,←this]
 simp only[kS,cellsOf,N9,List.length_nil]
 rw[Ek,if_pos (by simp;omega)]
 simp[Od,Jp,Jq]
theorem jt3 {f:α→AVal}{sz i o n b v:Nat}{l:List α}{x:α}(hf:∀x,(f x).flat.length=sz)(hb:h[b]?=Ea (.vec sz v (l.map f)))(mG:qC h0 al b=Hu)(hx:l[i]?=Ea x)(ho:o+n≤sz):
  y8 h0 al Hu n h (Ea (.dK b v (i*sz+o)))=Ea ⟨.agg (((f x).flat.drop o).take n),Ga,Ec,h⟩:=by
 obtain⟨h1,h2⟩:=Ey hf hx ho
 have hg:j6 h b=Ea (.vec sz v (l.map f)):=hb
 show(bif qC h0 al b then(match j6 h b with
   |some (.vec _ cU xs)=>bif Hb v cU&&Ha (i*sz+o+n) (xs.flatMap AVal.flat).length then(bif Hu then val h (.agg (((xs.flatMap AVal.flat).drop (i*sz+o)).take n))else(match((xs.flatMap AVal.flat).drop (i*sz+o)).take n with
     | [v]=>val h v
     |_=>Ec))else Ec
   |_=>Ec)else Ec)=_
 rw[mG,hg]
 simp only[cond_true,Ib,N4]
 have h3:Ha (i*sz+o+n) ((l.map f).flatMap AVal.flat).length=Hu:=Eb h2
 rw[h3]
 simp only[cond_true,val]
 have h4:(((l.map f).flatMap AVal.flat).drop (i*sz+o)).take n=((f x).flat.drop o).take n:=h1
 rw[h4]
theorem j4v {f:α→AVal}{sz i b v:Nat}{l:List α}{x:α}(hf:∀x,(f x).flat.length=sz)(hb:h[b]?=Ea (.vec sz v (l.map f)))(mG:qC h0 al b=Hu)(hx:l[i]?=Ea x):
  y8 h0 al Hu sz h (Ea (.dK b v (i*sz)))=Ea ⟨.agg (f x).flat,Ga,Ec,h⟩:=by
 have:=jt3 (al:=al) (h0:=h0) (o:=0) (n:=sz) hf hb mG hx (by omega)
 rw[Nat.add_zero,Jn,E3 (by rw[hf];exact Nat.le_refl _)]at this
 exact this
theorem j4b {f:α→AVal}{sz i o b v:Nat}{l:List α}{x:α}{u}(hf:∀x,(f x).flat.length=sz)(hb:h[b]?=Ea (.vec sz v (l.map f)))(mG:qC h0 al b=Hu)(hx:l[i]?=Ea x)(hu:(f x).flat[o]?=Ea u):
  y8 h0 al Ga 1 h (Ea (.dK b v (i*sz+o)))=Ea ⟨u,Ga,Ec,h⟩:=by
 have aC:=(I.1 hu).1
 rw[hf]at aC
 obtain⟨h1,h2⟩:=Ey (n:=1) hf hx (by omega:o+1≤sz)
 have hg:j6 h b=Ea (.vec sz v (l.map f)):=hb
 show(bif qC h0 al b then(match j6 h b with
   |some (.vec _ cU xs)=>bif Hb v cU&&Ha (i*sz+o+1) (xs.flatMap AVal.flat).length then(bif Ga then val h (.agg (((xs.flatMap AVal.flat).drop (i*sz+o)).take 1))else(match((xs.flatMap AVal.flat).drop (i*sz+o)).take 1 with
     | [v]=>val h v
     |_=>Ec))else Ec
   |_=>Ec)else Ec)=_
 rw[mG,hg]
 simp only[cond_true,Ib,N4]
 have h3:Ha (i*sz+o+1) ((l.map f).flatMap AVal.flat).length=Hu:=Eb h2
 have h4:(((l.map f).flatMap AVal.flat).drop (i*sz+o)).take 1=[u]:=by
  show((zx f l).drop (i*sz+o)).take 1=[u]
  have N7:=(I.1 hu).1
  rw[h1,Gc N7,(I.1 hu).2]
  rfl
 rw[h3,h4]
 rfl
def Ez (h0:Nat)(r sz bytes:Nat)(h:ql)(x y:Option AVal):Option aK:=match x,y with
 |some (.list Hu _ []),Ea vy=>(match j9 sz vy with
   |some ys=>
    bif Ha ys.length 1073741824&&Ha bytes 4096&&Jg 0 sz&&!ys.isEmpty&&qr 0 ys&&Jg r 1000 then
     (match aG h0 h r (.vec sz 0 ys)with
      |some h'=>val h' (.aA (h0+r) 0 ys.length)
      |none=>Ec)else Ec
   |none=>Ec)
 |some (.aA b bm len),Ea vy=>(match j6 h b with
  |some (.vec cD cU xs)=>(match j9 sz vy with
   |some ys=>
    bif Hb bm cU&&Hb sz cD&&Ha len xs.length&&Ha (len+ys.length) 1073741824&&Ha bytes 4096&&Jg 0 sz&&qr 0 ys&&Jg r 1000 then
     (match jh h b (.vec sz (bm+1) (xs.take len++ys))with
      |some h'=>val h' (.aA b (bm+1) (len+ys.length))
      |none=>Ec)else Ec
   |none=>Ec)
  |_=>Ec)
 |_,_=>Ec
@[go_sem] theorem j4l {r sz bytes x y}:qb p xc h0 al e h (.gp r sz bytes x y)=Ez h0 r sz bytes h (qg e x) (qg e y):=rfl
theorem jxv {r sz z bytes ys b h'}(hl:ys.length≤1073741824)(hb:bytes≤4096)(hz:0<sz)(aS:ys≠[])(hp:qr 0 ys=Hu)(hr:r<1000)(hn:aG h0 h r (.vec sz 0 ys)=Ea h'):Ez h0 r sz bytes h (Ea (.list Hu z [])) (Ea (.list b sz ys))=Ea ⟨.aA (h0+r) 0 ys.length,Ga,Ec,h'⟩:=by
 have h5:ys.isEmpty=Ga:=by cases ys<;>simp at aS ⊢
 simp only[Ez,j9,Ib,Og,cond_true,Eb hl,Eb hb,Hy.mpr hz,h5,hp,Hy.mpr hr,Bool.not_false,N1,hn]
 rfl
theorem juw {r sz bytes b v len xs ys c}(fR:h[b]?=Ea (.vec sz v xs))(hlen:len≤xs.length)(hl:len+ys.length≤1073741824)(hb:bytes≤4096)(hz:0<sz)(hp:qr 0 ys=Hu)(hr:r<1000):
  Ez h0 r sz bytes h (Ea (.aA b v len)) (Ea (.list c sz ys))=Ea ⟨.aA b (v+1) (len+ys.length),Ga,Ec,h.set b (.vec sz (v+1) (xs.take len++ys))⟩:=by
 have hg:j6 h b=Ea (.vec sz v xs):=fR
 have aC:=(I.1 fR).1
 simp only[Ez,hg,j9,Ib,Og,cond_true,Eb hlen,Eb hl,Eb hb,Hy.mpr hz,hp,Hy.mpr hr,N1,jh,Hy.mpr aC]
 rfl
theorem jt9 {sz b v len i k}(hi:i<len):nQ sz h (Ea (.aA b v len)) (Ea (.int k (i:Int)))=Ea ⟨.dK b v (i*sz),Ga,Ec,h⟩:=by
 have:idx len (.int k (i:Int))=Ea i:=by rw[vP];exact ZF hi
 simp only[nQ,this]
 rfl
@[go_sem] theorem jyj {n}:qb p xc h0 al e h (.fK n)=Ea ⟨.ct n,Hu,Ec,h⟩:=rfl
def IF (n:Nat)(h:ql)(x:Option (AVal×Bool))(y:Option AVal):Option aK:=match x,y with
 |some (.ct m,Hu),Ea v=>cj (Hb m n&&Hb v.flat.length n&&v.flat.all qk) (Ea ⟨.ax v,Ga,Ec,h⟩)
 |_,_=>Ec
theorem qv3 {n m v}:IF n h (Ea (.ct m,Hu)) (Ea v)=cj (Hb m n&&Hb v.flat.length n&&v.flat.all qk) (Ea ⟨.ax v,Ga,Ec,h⟩):=rfl
@[go_sem] theorem jwe {n v}(hv:(Hb v.flat.length n&&v.flat.all qk)=Hu):IF n h (Ea (.ct n,Hu)) (Ea v)=Ea ⟨.ax v,Ga,Ec,h⟩:=by
 rw[qv3,Ib,N4,hv];rfl
@[go_sem] theorem jzx {n s x}:qb p xc h0 al e h (.db n s x)=IF n h (ja s e) (qg e x):=by
 simp only[qb,qo,IF]
 split
 ·rename_i m v h1 h2
  rw[h1,h2]
  simp only[cj]
  cases (Hb m n&&Hb v.flat.length n&&v.flat.all qk)<;>rfl
 ·rename_i DV
  split
  ·rename_i m v h1 h2
   exact absurd h2 (DV m v h1)
  ·rfl
end
end Go.Abs
