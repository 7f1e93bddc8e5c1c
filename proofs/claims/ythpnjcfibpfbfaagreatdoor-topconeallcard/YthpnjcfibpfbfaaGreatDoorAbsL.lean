/- Equations of the executor, third part. -/
import Derived.Test.YthpnjcfibpfbfaaGreatDoorAbsJ
set_option linter.unusedVariables false
set_option linter.unusedSimpArgs false
namespace Go.Abs
section
variable {p:je}{xc:XC}{h0:Nat}{al:Option (List Nat)}{e:Env}{h:qi}{α:Type}
def q08 {γ δ:Type}(En:γ→jo×ASt)(Ex:δ→jo×ASt):γ⊕δ→jo×ASt
 | .inl s=>En s
 | .inr d=>Ex d
@[simp] theorem jcb {γ δ:Type}{En:γ→jo×ASt}{Ex:δ→jo×ASt}{s:γ}:q08 En Ex (.inl s)=En s:=rfl
@[simp] theorem jdg {γ δ:Type}{En:γ→jo×ASt}{Ex:δ→jo×ASt}{s:δ}:q08 En Ex (.inr s)=Ex s:=rfl
theorem qs7 {c n r}(hr:r.1≠.normal):qin p c n (some r)=some r:=by
 obtain⟨x,st⟩:=r
 cases x with
 |normal=>exact absurd rfl hr
 |ret=>rfl
 |exit id=>rfl
theorem qai {n st h'}(hn:n=h.length)(hs:st.heap=h++h')(h1:yd n st.env=true)(h2:js n h=true):gc n st=⟨st.env,h⟩:=by
 obtain⟨ev,hp⟩:=st
 simp only at hs h1
 subst hs hn
 unfold gc
 cases h' with
 |nil=>simp
 |cons b h'=>
  have hle:Nat.ble (h++b::h').length h.length=false:=by
   rw[qc2];simp
  simp only[hle,cond_false,List.take_left',h1,h2,Bool.and_self,cond_true]
def jd6 (h:qi)(x i:Option AVal):Option ORes:=match x,i with
 |some (.str s),some j=>(match idx s.length j with
   |some j=>(match s[j]? with
    |some c=>val h (.int .u8 c.toNat)
    |none=>none)
   |none=>none)
 |_,_=>none
def qxv (h0 r:Nat)(h:qi)(x:Option AVal):Option ORes:=match x with
 |some (.str s)=>qba (newBox h0 h r (.iter s 0)) (.ptr (h0+r) 0)
 |_=>none
@[go_sem] theorem q2b {r s}:qxv h0 r h (some (.str s))=qba (newBox h0 h r (.iter s 0)) (.ptr (h0+r) 0):=rfl
def qw7 (h:qi)(b:Nat)(x:Option ABox):Option ORes:=match x with
 |some (.iter s pos)=>bif Nat.blt pos s.length then qba (jb h b (.iter s (pos+(qam s pos).2))) (.tup [.bool true,.int .i64 pos,.int .i32 (qam s pos).1])else val h (.tup [.bool false])
 |_=>none
def q1b (h0:Nat)(al:Option (List Nat))(h:qi)(x:Option AVal):Option ORes:=match x with
 |some (.ptr b 0)=>ifR (jf h0 al b) (qw7 h b h[b]?)
 |_=>none
@[go_sem] theorem q6z {b}:q1b h0 al h (some (.ptr b 0))=ifR (jf h0 al b) (qw7 h b h[b]?):=rfl
def qkb (h:qi)(zero:AVal)(r:Option (Option (Nat×AVal))):Option ORes:=match r with
 |some (some (_,v))=>val h v
 |some none=>val h zero
 |none=>none
@[go_sem] theorem q6y {z v i}:qkb h z (some (some (i,v)))=some ⟨v,false,none,h⟩:=rfl
@[go_sem] theorem q5m {z}:qkb h z (some none)=some ⟨z,false,none,h⟩:=rfl
def qm0 (h:qi)(kd:Kd)(z kv:AVal)(x:Option ABox):Option ORes:=match x with
 |some (.map es)=>qkb h z (jj kd kv es 0)
 |_=>none
@[go_sem] theorem q86 {kd z kv es}:qm0 h kd z kv (some (.map es))=qkb h z (jj kd kv es 0):=rfl
def qlh (h0:Nat)(al:Option (List Nat))(h:qi)(kd:Kd)(z:AVal)(m k:Option AVal):Option ORes:=match m,k with
 |some (.map b),some kv=>ifR (jf h0 al b) (qm0 h kd z kv h[b]?)
 |some .nilmap,some _=>val h z
 |_,_=>none
@[go_sem] theorem q2m {kd z kv b}:qlh h0 al h kd z (some (.map b)) (some kv)=ifR (jf h0 al b) (qm0 h kd z kv h[b]?):=rfl
@[go_sem] theorem jc8 {kd z m k}:qb p xc h0 al e h (.lookup kd z false m k)=qlh h0 al h kd z (qe e m) (qe e k):=by
 simp only[qb,j0,qlh]
 cases qe e m with
 |none=>cases qe e k<;>rfl
 |some v=>cases qe e k with
  |none=>cases v<;>rfl
  |some kv=>cases v with
   |map b=>
    simp only[ifR,jl,qm0,qkb]
    cases jf h0 al b with
    |false=>rfl
    |true=>
     simp only[cond_true]
     cases h[b]? with
     |none=>rfl
     |some x=>cases x with
      |map es=>
       simp only[]
       cases jj kd kv es 0 with
       |none=>rfl
       |some r=>cases r<;>rfl
      |_=>rfl
   |_=>rfl
def qvo (h:qi)(b:Nat)(es:List (AVal×AVal))(kv v:AVal)(r:Option (Option (Nat×AVal))):Option ORes:=match r with
 |some (some (i,_))=>qba (jb h b (.map (qaw es i v))) .undef
 |some none=>ifR (Nat.ble es.length 1073741824) (qba (jb h b (.map (es++[(kv,v)]))) .undef)
 |none=>none
@[go_sem] theorem q9h {b es kv v}:qvo h b es kv v (some none)=ifR (Nat.ble es.length 1073741824) (qba (jb h b (.map (es++[(kv,v)]))) .undef):=rfl
def qwi (h:qi)(b:Nat)(kd:Kd)(kv v:AVal)(x:Option ABox):Option ORes:=match x with
 |some (.map es)=>qvo h b es kv v (jj kd kv es 0)
 |_=>none
@[go_sem] theorem jbe {b kd kv v es}:qwi h b kd kv v (some (.map es))=qvo h b es kv v (jj kd kv es 0):=rfl
def jcx (h0:Nat)(al:Option (List Nat))(h:qi)(kd:Kd)(m k x:Option AVal):Option ORes:=match m,k,x with
 |some (.map b),some kv,some v=>ifR (jf h0 al b) (qwi h b kd kv v h[b]?)
 |_,_,_=>none
@[go_sem] theorem jch {b kd kv v}:jcx h0 al h kd (some (.map b)) (some kv) (some v)=ifR (jf h0 al b) (qwi h b kd kv v h[b]?):=rfl
def qfd (agg:Bool)(len sz:Nat)(h:qi)(x i:Option AVal):Option ORes:=match x,i with
  |some (.ptr b o),some j=>(match idx len j with
   |some j=>val h (.ptr b (o+j*sz))
   |none=>none)
  |some (.vptr (.agg cs)),some j=>(match idx len j with
   |some j=>(match part agg cs (j*sz) sz with
    |some v=>bif Bool.xor agg v.isAgg then none else val h (.vptr v)
    |none=>none)
   |none=>none)
  |_,_=>none
@[go_sem] theorem q4s {agg len sz x i}:qb p xc h0 al e h (.indexArr agg len sz x i)=qfd agg len sz h (qe e x) (qe e i):=rfl
end
section
variable {p:je}{xc:XC}{h0:Nat}{al:Option (List Nat)}{e:Env}{h:qi}{α:Type}
@[go_sem] theorem q0j {n s v xs}:qag n (.vec s v xs)=true:=rfl
@[go_sem] theorem q4o {n b v k}:below n (.vref b v k)=decide (b<n):=by
 simp only[below]
 cases hb:Nat.blt b n with
 |true=>simp[Nat.blt_eq.mp hb]
 |false=>
  have:¬b<n:=fun h=>by rw[Nat.blt_eq.mpr h]at hb;cases hb
  simp[this]
def zk (f:α→AVal)(l:List α):List AVal:=(l.map f).flatMap AVal.flat
theorem q91 {f:α→AVal}:zk f []=[]:=rfl
theorem qbo {f:α→AVal}{x l}:zk f (x::l)=(f x).flat++zk f l:=rfl
theorem qnv {f:α→AVal}{l m}:zk f (l++m)=zk f l++zk f m:=by simp[zk]
theorem qe1 {f:α→AVal}{sz}(hf:∀x,(f x).flat.length=sz)(l:List α):(zk f l).length=l.length*sz:=by
 induction l with
 |nil=>simp[zk]
 |cons x l ih=>rw[qbo,List.length_append,hf,ih,List.length_cons,Nat.succ_mul];omega
theorem qkk {f:α→AVal}{sz}(hf:∀x,(f x).flat.length=sz):∀ {l:List α} {i:Nat},(zk f l).drop (i*sz)=zk f (l.drop i)
 | [],i=>by simp[zk]
 |x::l,0=>by simp
 |x::l,i+1=>by
  rw[qbo,List.drop_succ_cons,←qkk hf,show(i+1)*sz=(f x).flat.length+i*sz by rw[hf,Nat.succ_mul];omega,List.drop_append]
  simp
theorem qsb {f:α→AVal}{sz}(hf:∀x,(f x).flat.length=sz):∀ {l:List α} {i:Nat},(zk f l).take (i*sz)=zk f (l.take i)
 | [],i=>by simp[zk]
 |x::l,0=>by simp[zk]
 |x::l,i+1=>by
  rw[qbo,List.take_succ_cons,qbo,←qsb hf,show(i+1)*sz=(f x).flat.length+i*sz by rw[hf,Nat.succ_mul];omega,List.take_append]
  congr 1
  ·exact List.take_of_length_le (by omega)
  ·congr 1;omega
theorem qvi {f:α→AVal}{sz i l x}(hf:∀x,(f x).flat.length=sz)(hx:l[i]?=some x):(zk f l).drop (i*sz)=(f x).flat++zk f (l.drop (i+1)):=by
 rw[qkk hf]
 have hlt:=(List.getElem?_eq_some_iff.1 hx).1
 rw[List.drop_eq_getElem_cons hlt,qbo,(List.getElem?_eq_some_iff.1 hx).2]
theorem qce {f:α→AVal}{sz i o n l x}(hf:∀x,(f x).flat.length=sz)(hx:l[i]?=some x)(ho:o+n≤sz):((zk f l).drop (i*sz+o)).take n=((f x).flat.drop o).take n∧i*sz+o+n≤(zk f l).length:=by
 have hlt:=(List.getElem?_eq_some_iff.1 hx).1
 refine⟨?_,?_⟩
 ·rw[←List.drop_drop,qvi hf hx,List.drop_append,List.take_append]
  have h1:(f x).flat.length=sz:=hf x
  have h2:n-((f x).flat.drop o).length=0:=by rw[List.length_drop];omega
  rw[h2,List.take_zero,List.append_nil]
 ·rw[qe1 hf]
  have:(i+1)*sz≤l.length*sz:=Nat.mul_le_mul_right _ hlt
  rw[Nat.succ_mul]at this
  omega
theorem ql6 {f:α→AVal}{sz i o l x y us}(hf:∀x,(f x).flat.length=sz)(hx:l[i]?=some x)(ho:o+us.length≤sz)(hy:(f y).flat=(f x).flat.take o++us++(f x).flat.drop (o+us.length)):
  (zk f l).take (i*sz+o)++us++(zk f l).drop (i*sz+o+us.length)=zk f (l.set i y):=by
 have hlt:=(List.getElem?_eq_some_iff.1 hx).1
 have hsplit:l=l.take i++x::l.drop (i+1):=by
  conv=>lhs;rw[←List.take_append_drop i l,List.drop_eq_getElem_cons hlt,(List.getElem?_eq_some_iff.1 hx).2]
 have hset:l.set i y=l.take i++y::l.drop (i+1):=by rw[List.set_eq_take_append_cons_drop,if_pos hlt]
 have hl:(zk f (l.take i)).length=i*sz:=by rw[qe1 hf,List.length_take,Nat.min_eq_left (by omega)]
 have h1:(f x).flat.length=sz:=hf x
 rw[hset]
 conv=>lhs;rw[hsplit]
 simp only[qnv,qbo]
 rw[hy,List.take_append,List.drop_append,hl]
 have e1:(zk f (l.take i)).take (i*sz+o)=zk f (l.take i):=List.take_of_length_le (by omega)
 have e2:(zk f (l.take i)).drop (i*sz+o+us.length)=[]:=List.drop_eq_nil_of_le (by omega)
 rw[e1,e2,List.nil_append,show i*sz+o-i*sz=o by omega,show i*sz+o+us.length-i*sz=o+us.length by omega,List.take_append,List.drop_append]
 have e3:o-(f x).flat.length=0:=by omega
 have e4:o+us.length-(f x).flat.length=0:=by omega
 rw[e3,e4,List.take_zero,List.drop_zero,List.append_nil]
 simp[List.append_assoc]
def rcl (f:α→AVal)(l:List α):List (AVal×Bool):=cellsOf (zk f l)
theorem qqc {vs}:(cellsOf vs).map (·.1)=vs:=by
 induction vs with
 |nil=>rfl
 |cons v vs ih=>simp only[cellsOf,List.map_cons]at ih ⊢;rw[ih]
theorem q53 {f sz}(hf:∀x,(f x).flat.length=sz)(l:List α):(rcl f l).length=l.length*sz:=by simp[rcl,cellsOf,qe1 hf]
theorem qzh {f:α→AVal}{sz i o n l x}(hf:∀x,(f x).flat.length=sz)(hx:l[i]?=some x)(ho:o+n≤sz):zc (rcl f l) (i*sz+o) n=some (((f x).flat.drop o).take n):=by
 obtain⟨h1,h2⟩:=qce hf hx ho
 unfold zc
 have:(rcl f l).length=(zk f l).length:=by simp[rcl,cellsOf]
 rw[this,Nat.ble_eq_true_of_le h2]
 simp only[cond_true,Option.some.injEq]
 rw[←h1]
 simp only[rcl,List.map_take,List.map_drop,qqc]
theorem jd8 {f:α→AVal}{sz i l x}(hf:∀x,(f x).flat.length=sz)(hx:l[i]?=some x):zc (rcl f l) (i*sz) sz=some (f x).flat:=by
 have:=qzh (o:=0) (n:=sz) hf hx (by omega)
 rw[Nat.add_zero,List.drop_zero,List.take_of_length_le (by rw[hf];exact Nat.le_refl _)]at this
 exact this
theorem jer {f:α→AVal}{sz i o l x y us}(hf:∀x,(f x).flat.length=sz)(hx:l[i]?=some x)(ho:o+us.length≤sz)(hs:us.all qf=true)(hy:(f y).flat=(f x).flat.take o++us++(f x).flat.drop (o+us.length)):
  zn (rcl f l) (i*sz+o) us=some (rcl f (l.set i y)):=by
 obtain⟨_,h2⟩:=qce hf hx ho
 unfold zn
 have:(rcl f l).length=(zk f l).length:=by simp[rcl,cellsOf]
 rw[this,Nat.ble_eq_true_of_le h2,hs]
 simp only[Bool.and_self,cond_true,Option.some.injEq]
 rw[show rcl f (l.set i y)=cellsOf (zk f (l.set i y))from rfl,←ql6 hf hx ho hy]
 simp[rcl,cellsOf,List.map_append,List.map_take,List.map_drop]
theorem q2e {f:α→AVal}{sz i o l x y u}(hf:∀x,(f x).flat.length=sz)(hx:l[i]?=some x)(ho:o<sz)(hy:(f y).flat=(f x).flat.set o u):(rcl f l).set (i*sz+o) (u,false)=rcl f (l.set i y):=by
 have hl:(f x).flat.length=sz:=hf x
 have h2:=(qce (n:=1) (o:=o) hf hx (by omega)).2
 have:=ql6 (us:=[u]) (y:=y) (o:=o) hf hx (by simp;omega) (by rw[hy,List.set_eq_take_append_cons_drop,if_pos (show o<(f x).flat.length by omega)];simp)
 rw[show rcl f (l.set i y)=cellsOf (zk f (l.set i y))from rfl,←this]
 simp only[rcl,cellsOf,List.length_cons,List.length_nil]
 rw[List.set_eq_take_append_cons_drop,if_pos (by simp;omega)]
 simp[List.map_append,List.map_take,List.map_drop]
theorem q36 {f:α→AVal}{sz i o n b v:Nat}{l:List α}{x:α}(hf:∀x,(f x).flat.length=sz)(hb:h[b]?=some (.vec sz v (l.map f)))(hal:qbv h0 al b=true)(hx:l[i]?=some x)(ho:o+n≤sz):
  yr h0 al true n h (some (.vel b v (i*sz+o)))=some ⟨.agg (((f x).flat.drop o).take n),false,none,h⟩:=by
 obtain⟨h1,h2⟩:=qce hf hx ho
 have hg:jl h b=some (.vec sz v (l.map f)):=hb
 show(bif qbv h0 al b then(match jl h b with
   |some (.vec _ ver' xs)=>bif Nat.beq v ver'&&Nat.ble (i*sz+o+n) (xs.flatMap AVal.flat).length then(bif true then val h (.agg (((xs.flatMap AVal.flat).drop (i*sz+o)).take n))else(match((xs.flatMap AVal.flat).drop (i*sz+o)).take n with
     | [v]=>val h v
     |_=>none))else none
   |_=>none)else none)=_
 rw[hal,hg]
 simp only[cond_true,Nat.beq_refl,Bool.true_and]
 have h3:Nat.ble (i*sz+o+n) ((l.map f).flatMap AVal.flat).length=true:=Nat.ble_eq_true_of_le h2
 rw[h3]
 simp only[cond_true,val]
 have h4:(((l.map f).flatMap AVal.flat).drop (i*sz+o)).take n=((f x).flat.drop o).take n:=h1
 rw[h4]
theorem je7 {f:α→AVal}{sz i b v:Nat}{l:List α}{x:α}(hf:∀x,(f x).flat.length=sz)(hb:h[b]?=some (.vec sz v (l.map f)))(hal:qbv h0 al b=true)(hx:l[i]?=some x):
  yr h0 al true sz h (some (.vel b v (i*sz)))=some ⟨.agg (f x).flat,false,none,h⟩:=by
 have:=q36 (al:=al) (h0:=h0) (o:=0) (n:=sz) hf hb hal hx (by omega)
 rw[Nat.add_zero,List.drop_zero,List.take_of_length_le (by rw[hf];exact Nat.le_refl _)]at this
 exact this
theorem jem {f:α→AVal}{sz i o b v:Nat}{l:List α}{x:α}{u}(hf:∀x,(f x).flat.length=sz)(hb:h[b]?=some (.vec sz v (l.map f)))(hal:qbv h0 al b=true)(hx:l[i]?=some x)(hu:(f x).flat[o]?=some u):
  yr h0 al false 1 h (some (.vel b v (i*sz+o)))=some ⟨u,false,none,h⟩:=by
 have hlt:=(List.getElem?_eq_some_iff.1 hu).1
 rw[hf]at hlt
 obtain⟨h1,h2⟩:=qce (n:=1) hf hx (by omega:o+1≤sz)
 have hg:jl h b=some (.vec sz v (l.map f)):=hb
 show(bif qbv h0 al b then(match jl h b with
   |some (.vec _ ver' xs)=>bif Nat.beq v ver'&&Nat.ble (i*sz+o+1) (xs.flatMap AVal.flat).length then(bif false then val h (.agg (((xs.flatMap AVal.flat).drop (i*sz+o)).take 1))else(match((xs.flatMap AVal.flat).drop (i*sz+o)).take 1 with
     | [v]=>val h v
     |_=>none))else none
   |_=>none)else none)=_
 rw[hal,hg]
 simp only[cond_true,Nat.beq_refl,Bool.true_and]
 have h3:Nat.ble (i*sz+o+1) ((l.map f).flatMap AVal.flat).length=true:=Nat.ble_eq_true_of_le h2
 have h4:(((l.map f).flatMap AVal.flat).drop (i*sz+o)).take 1=[u]:=by
  show((zk f l).drop (i*sz+o)).take 1=[u]
  have hol:=(List.getElem?_eq_some_iff.1 hu).1
  rw[h1,List.drop_eq_getElem_cons hol,(List.getElem?_eq_some_iff.1 hu).2]
  rfl
 rw[h3,h4]
 rfl
def qkl (h0:Nat)(r sz bytes:Nat)(h:qi)(x y:Option AVal):Option ORes:=match x,y with
 |some (.list true _ []),some vy=>(match jx sz vy with
   |some ys=>
    bif Nat.ble ys.length 1073741824&&Nat.ble bytes 4096&&Nat.blt 0 sz&&!ys.isEmpty&&qo 0 ys&&Nat.blt r 1000 then
     (match newBox h0 h r (.vec sz 0 ys)with
      |some h'=>val h' (.vref (h0+r) 0 ys.length)
      |none=>none)else none
   |none=>none)
 |some (.vref b ver len),some vy=>(match jl h b with
  |some (.vec sz' ver' xs)=>(match jx sz vy with
   |some ys=>
    bif Nat.beq ver ver'&&Nat.beq sz sz'&&Nat.ble len xs.length&&Nat.ble (len+ys.length) 1073741824&&Nat.ble bytes 4096&&Nat.blt 0 sz&&qo 0 ys&&Nat.blt r 1000 then
     (match jb h b (.vec sz (ver+1) (xs.take len++ys))with
      |some h'=>val h' (.vref b (ver+1) (len+ys.length))
      |none=>none)else none
   |none=>none)
  |_=>none)
 |_,_=>none
@[go_sem] theorem jew {r sz bytes x y}:qb p xc h0 al e h (.vapp r sz bytes x y)=qkl h0 r sz bytes h (qe e x) (qe e y):=rfl
theorem jag {r sz z bytes ys b h'}(hl:ys.length≤1073741824)(hb:bytes≤4096)(hz:0<sz)(hne:ys≠[])(hp:qo 0 ys=true)(hr:r<1000)(hn:newBox h0 h r (.vec sz 0 ys)=some h'):qkl h0 r sz bytes h (some (.list true z [])) (some (.list b sz ys))=some ⟨.vref (h0+r) 0 ys.length,false,none,h'⟩:=by
 have h5:ys.isEmpty=false:=by cases ys<;>simp at hne ⊢
 simp only[qkl,jx,Nat.beq_refl,Bool.true_or,cond_true,Nat.ble_eq_true_of_le hl,Nat.ble_eq_true_of_le hb,Nat.blt_eq.mpr hz,h5,hp,Nat.blt_eq.mpr hr,Bool.not_false,Bool.and_self,hn]
 rfl
theorem q94 {r sz bytes b v len xs ys c}(hbx:h[b]?=some (.vec sz v xs))(hlen:len≤xs.length)(hl:len+ys.length≤1073741824)(hb:bytes≤4096)(hz:0<sz)(hp:qo 0 ys=true)(hr:r<1000):
  qkl h0 r sz bytes h (some (.vref b v len)) (some (.list c sz ys))=some ⟨.vref b (v+1) (len+ys.length),false,none,h.set b (.vec sz (v+1) (xs.take len++ys))⟩:=by
 have hg:jl h b=some (.vec sz v xs):=hbx
 have hlt:=(List.getElem?_eq_some_iff.1 hbx).1
 simp only[qkl,hg,jx,Nat.beq_refl,Bool.true_or,cond_true,Nat.ble_eq_true_of_le hlen,Nat.ble_eq_true_of_le hl,Nat.ble_eq_true_of_le hb,Nat.blt_eq.mpr hz,hp,Nat.blt_eq.mpr hr,Bool.and_self,jb,Nat.blt_eq.mpr hlt]
 rfl
theorem q96 {sz b v len i k}(hi:i<len):qgj sz h (some (.vref b v len)) (some (.int k (i:Int)))=some ⟨.vel b v (i*sz),false,none,h⟩:=by
 have:idx len (.int k (i:Int))=some i:=by rw[qfz];exact qo4 hi
 simp only[qgj,this]
 rfl
@[go_sem] theorem jaq {n}:qb p xc h0 al e h (.valloc n)=some ⟨.pend n,true,none,h⟩:=rfl
def qic (n:Nat)(h:qi)(x:Option (AVal×Bool))(y:Option AVal):Option ORes:=match x,y with
 |some (.pend m,true),some v=>ifR (Nat.beq m n&&Nat.beq v.flat.length n&&v.flat.all qf) (some ⟨.vptr v,false,none,h⟩)
 |_,_=>none
theorem qnn {n m v}:qic n h (some (.pend m,true)) (some v)=ifR (Nat.beq m n&&Nat.beq v.flat.length n&&v.flat.all qf) (some ⟨.vptr v,false,none,h⟩):=rfl
@[go_sem] theorem q9y {n v}(hv:(Nat.beq v.flat.length n&&v.flat.all qf)=true):qic n h (some (.pend n,true)) (some v)=some ⟨.vptr v,false,none,h⟩:=by
 rw[qnn,Nat.beq_refl,Bool.true_and,hv];rfl
@[go_sem] theorem jbl {n s x}:qb p xc h0 al e h (.vstore n s x)=qic n h (qv s e) (qe e x):=by
 simp only[qb,qg,qic]
 split
 ·rename_i m v h1 h2
  rw[h1,h2]
  simp only[ifR]
  cases (Nat.beq m n&&Nat.beq v.flat.length n&&v.flat.all qf)<;>rfl
 ·rename_i hno
  split
  ·rename_i m v h1 h2
   exact absurd h2 (hno m v h1)
  ·rfl
end
end Go.Abs
