/- Equations of the executor, third part. -/
import Derived.Test.YtoaianfagfampaaGreatDoorAbsJ
set_option linter.all false
open List renaming getElem?_eq_some_iff->Eb,set_eq_take_append_cons_drop->E3,drop_eq_getElem_cons->E9,drop_append->G5,take_append->Ha,take_of_length_le->Hc,map_take->Hd,map_drop->He,length_cons->Ho,append_nil->Hp,map_append->Hq,take_zero->Hr,drop_zero->Hs
open Option renaming some->Eg,none->Ep
open Nat renaming ble_eq_true_of_le->Eh,ble->E8,beq->G1,blt_eq->G4,beq_refl->G7,blt->Hb,succ_mul->Hg
open Bool renaming false->E4,true->G0,and_self->G8,true_and->Hf,and_eq_true->Hk,true_or->Hu
namespace Go.Abs
section
variable {p:j8}{xc:XC}{h0:Nat}{al:ak Nat}{e:Env}{h:qi}{α:Type}
def vY {α γ δ:Type}(g:Nat->γ->α->γ⊕δ):Nat->γ->List α->γ⊕δ
 |_,s,[]=>.inl s
 |i,s,x::l=>match g i s x with
  | .inl s'=>vY g (i+1) s' l| .inr d=>.inr d
def jv2 {γ δ:Type}(En:γ->jc×bj)(Ex:δ->jc×bj):γ⊕δ->jc×bj
 | .inl s=>En s| .inr d=>Ex d
@[simp] theorem j9f {γ δ:Type}{En:γ->jc×bj}{Ex:δ->jc×bj}{s:γ}:jv2 En Ex (.inl s)=En s:=rfl
@[simp] theorem j61 {γ δ:Type}{En:γ->jc×bj}{Ex:δ->jc×bj}{s:δ}:jv2 En Ex (.inr s)=Ex s:=rfl
theorem jel {c n r}(Q:r.1≠.normal):Fe p c n (Eg r)=Eg r:=by
 obtain⟨x,st⟩:=r
 cases x with
 |normal=>exact absurd rfl Q|ret=>rfl|exit id=>rfl
theorem jpy {n st h'}(hn:n=h.length)(G:st.heap=h++h')(Y:lU n st.env=G0)(I:qr n h=G0):gc n st=⟨st.env,h⟩:=by
 obtain⟨ev,hp⟩:=st;simp only at G Y;subst G hn;unfold gc
 cases h' with
 |nil=>simp
 |cons b h'=>
  have hle:E8 (h++b::h').length h.length=E4:=by
   rw[np];simp
  simp only[hle,cond_false,List.take_left',Y,I,G8,cond_true]
def A6 (h:qi)(x i:Option AVal):Option br:=match x,i with
 |some (.str s),Eg j=>(match idx s.length j with
   |some j=>(match s[j]? with
    |some c=>val h (.int .u8 c.toNat)
    |none=>Ep)
   |none=>Ep)
 |_,_=>Ep
theorem jyo {x i}:qg p xc h0 al e h (.dH x i)=A6 h (qj e x) (qj e i):=by
 simp only[qg,qn,A6]
 cases qj e x with
 |none=>rfl
 |some v=>cases v with
  |str s=>cases qj e i<;>rfl|_=>cases qj e i<;>rfl
theorem jgo {s:aj}{k:IntKind}{i:Nat}{c:UInt8}(hc:s[i]?=Eg c):A6 h (Eg (.str s)) (Eg (.int k (i:Int)))=Eg ⟨.int .u8 c.toNat,E4,Ep,h⟩:=by
 have hl:i<s.length:=(Eb.1 hc).1
 have:idx s.length (.int k (i:Int))=Eg i:=by rw[xV,Td hl]
 simp only[A6,this,hc,val]
theorem zb8 {a b}:z8 .eql (.str a) (.str b)=Eg (.bool (decide (a=b))):=by
 by_cases lY:a=b<;>simp[z8,EB,lY]
theorem zbu {a b}:z8 .neq (.str a) (.str b)=Eg (.bool (!decide (a=b))):=by
 by_cases lY:a=b<;>simp[z8,EB,lY]
def TM (h0 r:Nat)(h:qi)(x:Option AVal):Option br:=match x with
 |some (.str s)=>iy (aK h0 h r (.iter s 0)) (.ptr (h0+r) 0)|_=>Ep
theorem jwy {r s}:TM h0 r h (Eg (.str s))=iy (aK h0 h r (.iter s 0)) (.ptr (h0+r) 0):=rfl
theorem j7k {r x}:qg p xc h0 al e h (.dD r x)=TM h0 r h (qj e x):=by
 simp only[qg,qq,TM]
 cases qj e x with
 |none=>rfl
 |some v=>cases v with
  |str s=>simp only[iy];cases aK h0 h r (.iter s 0)<;>rfl|_=>rfl
def uv (h:qi)(b:Nat)(x:Option bG):Option br:=match x with
 |some (.iter s pos)=>bif Hb pos s.length then iy (jx h b (.iter s (pos+(ql s pos).2))) (.bq [.bool G0,.int .i64 pos,.int .i32 (ql s pos).1])else val h (.bq [.bool E4])|_=>Ep
theorem ji3 {b pos s}(hp:pos<s.length):uv h b (Eg (.iter s pos))=iy (jx h b (.iter s (pos+(ql s pos).2))) (.bq [.bool G0,.int .i64 pos,.int .i32 (ql s pos).1]):=by
 simp only[uv,ur,hp,decide_true,cond_true]
theorem jew {b pos s}(hp:¬pos<s.length):uv h b (Eg (.iter s pos))=Eg ⟨.bq [.bool E4],E4,Ep,h⟩:=by
 simp only[uv,ur,hp,decide_false,cond_false,val]
def TN (h0:Nat)(al:ak Nat)(h:qi)(x:Option AVal):Option br:=match x with
 |some (.ptr b 0)=>cm (j9 h0 al b) (uv h b h[b]?)|_=>Ep
theorem jyq {b}:TN h0 al h (Eg (.ptr b 0))=cm (j9 h0 al b) (uv h b h[b]?):=rfl
theorem zb7 {x}:qg p xc h0 al e h (.fE x)=TN h0 al h (qj e x):=by
 simp only[qg,qq,TN]
 cases qj e x with
 |none=>rfl
 |some v=>cases v with
  |ptr b o=>
   cases o with
   |succ o=>rfl
   |zero=>
    simp only[cm,zi,uv,iy]
    cases j9 h0 al b with
    |false=>rfl
    |true=>
     simp only[cond_true]
     cases h[b]? with
     |none=>rfl
     |some x=>cases x with
      |iter s pos=>
       simp only[]
       cases Hb pos s.length with
       |false=>rfl|true=>simp only[cond_true];cases jx h b (.iter s (pos+(ql s pos).2))<;>rfl
      |_=>rfl
  |_=>rfl
theorem M0 {s i c}(hc:s[i]?=Eg c)(hl:c.toNat<128):ql s i=(c.toNat,1):=by
 have hg:(ByteArray.get! ⟨⟨s⟩⟩ (i+0))=c:=by
  obtain⟨Y,I⟩:=Eb.1 hc;simp[ByteArray.get!,Y,I]
 simp only[ql,Utf8.decode,hg,hl,if_true]
theorem TP {s i c}(hc:s[i]?=Eg c)(hl:¬c.toNat<128):128<=(ql s i).1:=by
 have hg:(ByteArray.get! ⟨⟨s⟩⟩ (i+0))=c:=by
  obtain⟨Y,I⟩:=Eb.1 hc;simp[ByteArray.get!,Y,I]
 simp only[ql,Utf8.decode,hg,hl,if_false,Utf8.runeError];split
 .split<;>simp<;>omega
 .split
  .split
   .next hh=>simp only[Hk,decide_eq_true_eq]at hh;simp only;omega
   .decide
  .split
   .split
    .next hh=>simp only[Hk,decide_eq_true_eq]at hh;simp only;omega
    .decide
   .decide
def vZ (h:qi)(zero:AVal)(r:Option (Option (Nat×AVal))):Option br:=match r with
 |some (Eg (_,v))=>val h v|some Ep=>val h zero|none=>Ep
theorem jzd {z v i}:vZ h z (Eg (Eg (i,v)))=Eg ⟨v,E4,Ep,h⟩:=rfl
theorem j1k {z}:vZ h z (Eg Ep)=Eg ⟨z,E4,Ep,h⟩:=rfl
def M1 (h:qi)(kd:Kd)(z kv:AVal)(x:Option bG):Option br:=match x with
 |some (.map es)=>vZ h z (jz kd kv es 0)|_=>Ep
theorem j2y {kd z kv es}:M1 h kd z kv (Eg (.map es))=vZ h z (jz kd kv es 0):=rfl
def TQ (h0:Nat)(al:ak Nat)(h:qi)(kd:Kd)(z:AVal)(m k:Option AVal):Option br:=match m,k with
 |some (.map b),Eg kv=>cm (j9 h0 al b) (M1 h kd z kv h[b]?)|some .cD,Eg _=>val h z|_,_=>Ep
theorem jwd {kd z kv b}:TQ h0 al h kd z (Eg (.map b)) (Eg kv)=cm (j9 h0 al b) (M1 h kd z kv h[b]?):=rfl
theorem zai {kd z m k}:qg p xc h0 al e h (.lookup kd z E4 m k)=TQ h0 al h kd z (qj e m) (qj e k):=by
 simp only[qg,yl,TQ]
 cases qj e m with
 |none=>cases qj e k<;>rfl
 |some v=>cases qj e k with
  |none=>cases v<;>rfl
  |some kv=>cases v with
   |map b=>
    simp only[cm,zi,M1,vZ]
    cases j9 h0 al b with
    |false=>rfl
    |true=>
     simp only[cond_true]
     cases h[b]? with
     |none=>rfl
     |some x=>cases x with
      |map es=>
       simp only[]
       cases jz kd kv es 0 with
       |none=>rfl|some r=>cases r<;>rfl
      |_=>rfl
   |_=>rfl
def Fh (h:qi)(b:Nat)(es:List (AVal×AVal))(kv v:AVal)(r:Option (Option (Nat×AVal))):Option br:=match r with
 |some (Eg (i,_))=>iy (jx h b (.map (rJ es i v))) .undef|some Ep=>cm (E8 es.length 1073741824) (iy (jx h b (.map (es++[(kv,v)]))) .undef)|none=>Ep
theorem j3h {b es kv v}:Fh h b es kv v (Eg Ep)=cm (E8 es.length 1073741824) (iy (jx h b (.map (es++[(kv,v)]))) .undef):=rfl
def M2 (h:qi)(b:Nat)(kd:Kd)(kv v:AVal)(x:Option bG):Option br:=match x with
 |some (.map es)=>Fh h b es kv v (jz kd kv es 0)|_=>Ep
theorem j92 {b kd kv v es}:M2 h b kd kv v (Eg (.map es))=Fh h b es kv v (jz kd kv es 0):=rfl
def TR (h0:Nat)(al:ak Nat)(h:qi)(kd:Kd)(m k x:Option AVal):Option br:=match m,k,x with
 |some (.map b),Eg kv,Eg v=>cm (j9 h0 al b) (M2 h b kd kv v h[b]?)|_,_,_=>Ep
theorem j6b {b kd kv v}:TR h0 al h kd (Eg (.map b)) (Eg kv) (Eg v)=cm (j9 h0 al b) (M2 h b kd kv v h[b]?):=rfl
theorem jxd {kd m k x}:qg p xc h0 al e h (.mapUpdate kd m k x)=TR h0 al h kd (qj e m) (qj e k) (qj e x):=by
 simp only[qg,qq,TR]
 cases qj e m with
 |none=>cases qj e k<;>cases qj e x<;>rfl
 |some v=>cases qj e k with
  |none=>cases v<;>cases qj e x<;>rfl
  |some kv=>cases qj e x with
   |none=>cases v<;>rfl
   |some xv=>cases v with
    |map b=>
     simp only[cm,zi,M2,Fh,iy]
     cases j9 h0 al b with
     |false=>rfl
     |true=>
      simp only[cond_true]
      cases h[b]? with
      |none=>rfl
      |some x=>cases x with
       |map es=>
        simp only[]
        cases jz kd kv es 0 with
        |none=>rfl
        |some r=>cases r with
         |none=>
          simp only[]
          cases E8 es.length 1073741824 with
          |false=>rfl|true=>simp only[cond_true];cases jx h b (.map (es++[(kv,xv)]))<;>rfl
         |some r=>simp only[];cases jx h b (.map (rJ es r.1 xv))<;>rfl
       |_=>rfl
    |_=>rfl
def jf4 (agg:Bool)(len sz:Nat)(h:qi)(x i:Option AVal):Option br:=match x,i with
  |some (.ptr b o),Eg j=>(match idx len j with
   |some j=>val h (.ptr b (o+j*sz))
   |none=>Ep)
  |some (.aq (.agg cs)),Eg j=>(match idx len j with
   |some j=>(match part agg cs (j*sz) sz with
    |some v=>bif Bool.xor agg v.isAgg then Ep else val h (.aq v)
    |none=>Ep)
   |none=>Ep)
  |_,_=>Ep
theorem jyd {agg len sz x i}:qg p xc h0 al e h (.eW agg len sz x i)=jf4 agg len sz h (qj e x) (qj e i):=rfl
end
section
variable {p:j8}{xc:XC}{h0:Nat}{al:ak Nat}{e:Env}{h:qi}{α:Type}
theorem jti {n s v xs}:ze n (.vec s v xs)=G0:=rfl
theorem qP {n b v k}:below n (.az b v k)=decide (b<n):=by
 simp only[below]
 cases hb:Hb b n with
 |true=>simp[G4.mp hb]
 |false=>
  have:¬b<n:=fun h=>by rw[G4.mpr h]at hb;cases hb
  simp[this]
def zh (f:α->AVal)(l:List α):List AVal:=(l.map f).flatMap AVal.flat
theorem A7 {f:α->AVal}{x l}:zh f (x::l)=(f x).flat++zh f l:=rfl
theorem q7e {f:α->AVal}{l m}:zh f (l++m)=zh f l++zh f m:=by simp[zh]
theorem M3 {f:α->AVal}{sz}(hf:∀x,(f x).flat.length=sz)(l:List α):(zh f l).length=l.length*sz:=by
 induction l with
 |nil=>simp[zh]|cons x l ih=>rw[A7,List.length_append,hf,ih,Ho,Hg];omega
theorem qzc {f:α->AVal}{sz}(hf:∀x,(f x).flat.length=sz):∀ {l:List α} {i:Nat},(zh f l).drop (i*sz)=zh f (l.drop i)
 | [],i=>by simp[zh]
 |x::l,0=>by simp
 |x::l,i+1=>by
  rw[A7,List.drop_succ_cons,<-qzc hf,show(i+1)*sz=(f x).flat.length+i*sz by rw[hf,Hg];omega,G5];simp
theorem jj9 {f:α->AVal}{sz i l x}(hf:∀x,(f x).flat.length=sz)(M:l[i]?=Eg x):(zh f l).drop (i*sz)=(f x).flat++zh f (l.drop (i+1)):=by
 rw[qzc hf];have bh:=(Eb.1 M).1;rw[E9 bh,A7,(Eb.1 M).2]
theorem Fi {f:α->AVal}{sz i o n l x}(hf:∀x,(f x).flat.length=sz)(M:l[i]?=Eg x)(ho:o+n<=sz):((zh f l).drop (i*sz+o)).take n=((f x).flat.drop o).take n/\i*sz+o+n<=(zh f l).length:=by
 have bh:=(Eb.1 M).1;refine⟨?_,?_⟩
 .rw[<-List.drop_drop,jj9 hf M,G5,Ha];have Y:(f x).flat.length=sz:=hf x
  have I:n-((f x).flat.drop o).length=0:=by rw[List.length_drop];omega
  rw[I,Hr,Hp]
 .rw[M3 hf];have:(i+1)*sz<=l.length*sz:=Nat.mul_le_mul_right _ bh;rw[Hg]at this;omega
theorem q3e {f:α->AVal}{sz i o l x y us}(hf:∀x,(f x).flat.length=sz)(M:l[i]?=Eg x)(ho:o+us.length<=sz)(hy:(f y).flat=(f x).flat.take o++us++(f x).flat.drop (o+us.length)):
  (zh f l).take (i*sz+o)++us++(zh f l).drop (i*sz+o+us.length)=zh f (l.set i y):=by
 have bh:=(Eb.1 M).1
 have A8:l=l.take i++x::l.drop (i+1):=by
  conv=>lhs;rw[<-List.take_append_drop i l,E9 bh,(Eb.1 M).2]
 have bK:l.set i y=l.take i++y::l.drop (i+1):=by rw[E3,if_pos bh]
 have hl:(zh f (l.take i)).length=i*sz:=by rw[M3 hf,List.length_take,Nat.min_eq_left (by omega)]
 have Y:(f x).flat.length=sz:=hf x;rw[bK]
 conv=>lhs;rw[A8]
 simp only[q7e,A7];rw[hy,Ha,G5,hl];have e1:(zh f (l.take i)).take (i*sz+o)=zh f (l.take i):=Hc (by omega);have e2:(zh f (l.take i)).drop (i*sz+o+us.length)=[]:=List.drop_eq_nil_of_le (by omega);rw[e1,e2,List.nil_append,show i*sz+o-i*sz=o by omega,show i*sz+o+us.length-i*sz=o+us.length by omega,Ha,G5]
 have e3:o-(f x).flat.length=0:=by omega
 have e4:o+us.length-(f x).flat.length=0:=by omega
 rw[e3,e4,Hr,Hs,Hp];simp[List.append_assoc]
def bQ (f:α->AVal)(l:List α):List (AVal×Bool):=cellsOf (zh f l)
theorem z5 {vs}:(cellsOf vs).map (·.1)=vs:=by
 induction vs with
 |nil=>rfl|cons v vs ih=>simp only[cellsOf,List.map_cons]at ih ⊢;rw[ih]
theorem wc {f:α->AVal}{sz i o n l x}(hf:∀x,(f x).flat.length=sz)(M:l[i]?=Eg x)(ho:o+n<=sz):zm (bQ f l) (i*sz+o) n=Eg (((f x).flat.drop o).take n):=by
 obtain⟨Y,I⟩:=Fi hf M ho;unfold zm
 have:(bQ f l).length=(zh f l).length:=by simp[bQ,cellsOf]
 rw[this,Eh I];simp only[cond_true,Eg.injEq];rw[<-Y];simp only[bQ,Hd,He,z5]
theorem nq {f:α->AVal}{sz i o l x y us}(hf:∀x,(f x).flat.length=sz)(M:l[i]?=Eg x)(ho:o+us.length<=sz)(G:us.all qm=G0)(hy:(f y).flat=(f x).flat.take o++us++(f x).flat.drop (o+us.length)):
  jr (bQ f l) (i*sz+o) us=Eg (bQ f (l.set i y)):=by
 obtain⟨_,I⟩:=Fi hf M ho;unfold jr
 have:(bQ f l).length=(zh f l).length:=by simp[bQ,cellsOf]
 rw[this,Eh I,G];simp only[G8,cond_true,Eg.injEq];rw[show bQ f (l.set i y)=cellsOf (zh f (l.set i y))from rfl,<-q3e hf M ho hy];simp[bQ,cellsOf,Hq,Hd,He]
theorem q87 {f:α->AVal}{sz i o l x y u}(hf:∀x,(f x).flat.length=sz)(M:l[i]?=Eg x)(ho:o<sz)(hy:(f y).flat=(f x).flat.set o u):(bQ f l).set (i*sz+o) (u,E4)=bQ f (l.set i y):=by
 have hl:(f x).flat.length=sz:=hf x;have I:=(Fi (n:=1) (o:=o) hf M (by omega)).2;have:=q3e (us:=[u]) (y:=y) (o:=o) hf M (by simp;omega) (by rw[hy,E3,if_pos (show o<(f x).flat.length by omega)];simp);rw[show bQ f (l.set i y)=cellsOf (zh f (l.set i y))from rfl,<-this];simp only[bQ,cellsOf,Ho,List.length_nil];rw[E3,if_pos (by simp;omega)];simp[Hq,Hd,He]
theorem jzk {f:α->AVal}{sz i o n b v:Nat}{l:List α}{x:α}(hf:∀x,(f x).flat.length=sz)(hb:h[b]?=Eg (.vec sz v (l.map f)))(oQ:rI h0 al b=G0)(M:l[i]?=Eg x)(ho:o+n<=sz):
  kh h0 al G0 n h (Eg (.dN b v (i*sz+o)))=Eg ⟨.agg (((f x).flat.drop o).take n),E4,Ep,h⟩:=by
 obtain⟨Y,I⟩:=Fi hf M ho;have hg:zi h b=Eg (.vec sz v (l.map f)):=hb
 show(bif rI h0 al b then(match zi h b with
   |some (.vec _ dJ xs)=>bif G1 v dJ&&E8 (i*sz+o+n) (xs.flatMap AVal.flat).length then(bif G0 then val h (.agg (((xs.flatMap AVal.flat).drop (i*sz+o)).take n))else(match((xs.flatMap AVal.flat).drop (i*sz+o)).take n with
     | [v]=>val h v
     |_=>Ep))else Ep
   |_=>Ep)else Ep)=_
 rw[oQ,hg];simp only[cond_true,G7,Hf];have h3:E8 (i*sz+o+n) ((l.map f).flatMap AVal.flat).length=G0:=Eh I;rw[h3];simp only[cond_true,val];have h4:(((l.map f).flatMap AVal.flat).drop (i*sz+o)).take n=((f x).flat.drop o).take n:=Y;rw[h4]
theorem M4 {f:α->AVal}{sz i b v:Nat}{l:List α}{x:α}(hf:∀x,(f x).flat.length=sz)(hb:h[b]?=Eg (.vec sz v (l.map f)))(oQ:rI h0 al b=G0)(M:l[i]?=Eg x):
  kh h0 al G0 sz h (Eg (.dN b v (i*sz)))=Eg ⟨.agg (f x).flat,E4,Ep,h⟩:=by
 have:=jzk (al:=al) (h0:=h0) (o:=0) (n:=sz) hf hb oQ M (by omega);rw[Nat.add_zero,Hs,Hc (by rw[hf];exact Nat.le_refl _)]at this;exact this
theorem jh3 {f:α->AVal}{sz i o b v:Nat}{l:List α}{x:α}{u}(hf:∀x,(f x).flat.length=sz)(hb:h[b]?=Eg (.vec sz v (l.map f)))(oQ:rI h0 al b=G0)(M:l[i]?=Eg x)(hu:(f x).flat[o]?=Eg u):
  kh h0 al E4 1 h (Eg (.dN b v (i*sz+o)))=Eg ⟨u,E4,Ep,h⟩:=by
 have bh:=(Eb.1 hu).1;rw[hf]at bh;obtain⟨Y,I⟩:=Fi (n:=1) hf M (by omega:o+1<=sz);have hg:zi h b=Eg (.vec sz v (l.map f)):=hb
 show(bif rI h0 al b then(match zi h b with
   |some (.vec _ dJ xs)=>bif G1 v dJ&&E8 (i*sz+o+1) (xs.flatMap AVal.flat).length then(bif E4 then val h (.agg (((xs.flatMap AVal.flat).drop (i*sz+o)).take 1))else(match((xs.flatMap AVal.flat).drop (i*sz+o)).take 1 with
     | [v]=>val h v
     |_=>Ep))else Ep
   |_=>Ep)else Ep)=_
 rw[oQ,hg];simp only[cond_true,G7,Hf];have h3:E8 (i*sz+o+1) ((l.map f).flatMap AVal.flat).length=G0:=Eh I
 have h4:(((l.map f).flatMap AVal.flat).drop (i*sz+o)).take 1=[u]:=by
  show((zh f l).drop (i*sz+o)).take 1=[u];have Ru:=(Eb.1 hu).1;rw[Y,E9 Ru,(Eb.1 hu).2];rfl
 rw[h3,h4];rfl
def kD (h0:Nat)(r sz bytes:Nat)(h:qi)(x y:Option AVal):Option br:=match x,y with
 |some (.list G0 _ []),Eg vy=>(match yb sz vy with
   |some ys=>
    bif E8 ys.length 1073741824&&E8 bytes 4096&&Hb 0 sz&&!ys.isEmpty&&qt 0 ys&&Hb r 1000 then
     (match aK h0 h r (.vec sz 0 ys)with
      |some h'=>val h' (.az (h0+r) 0 ys.length)
      |none=>Ep)else Ep
   |none=>Ep)
 |some (.az b bO len),Eg vy=>(match zi h b with
  |some (.vec de dJ xs)=>(match yb sz vy with
   |some ys=>
    bif G1 bO dJ&&G1 sz de&&E8 len xs.length&&E8 (len+ys.length) 1073741824&&E8 bytes 4096&&Hb 0 sz&&qt 0 ys&&Hb r 1000 then
     (match jx h b (.vec sz (bO+1) (xs.take len++ys))with
      |some h'=>val h' (.az b (bO+1) (len+ys.length))
      |none=>Ep)else Ep
   |none=>Ep)
  |_=>Ep)
 |_,_=>Ep
theorem zcs {r sz bytes x y}:qg p xc h0 al e h (.gD r sz bytes x y)=kD h0 r sz bytes h (qj e x) (qj e y):=rfl
theorem M5 {r sz z bytes ys b h'}(hl:ys.length<=1073741824)(hb:bytes<=4096)(hz:0<sz)(bI:ys≠[])(hp:qt 0 ys=G0)(Q:r<1000)(hn:aK h0 h r (.vec sz 0 ys)=Eg h'):kD h0 r sz bytes h (Eg (.list G0 z [])) (Eg (.list b sz ys))=Eg ⟨.az (h0+r) 0 ys.length,E4,Ep,h'⟩:=by
 have h5:ys.isEmpty=E4:=by cases ys<;>simp at bI ⊢
 simp only[kD,yb,G7,Hu,cond_true,Eh hl,Eh hb,G4.mpr hz,h5,hp,G4.mpr Q,Bool.not_false,G8,hn];rfl
theorem jer {r sz bytes b v len xs ys c}(gM:h[b]?=Eg (.vec sz v xs))(hlen:len<=xs.length)(hl:len+ys.length<=1073741824)(hb:bytes<=4096)(hz:0<sz)(hp:qt 0 ys=G0)(Q:r<1000):
  kD h0 r sz bytes h (Eg (.az b v len)) (Eg (.list c sz ys))=Eg ⟨.az b (v+1) (len+ys.length),E4,Ep,h.set b (.vec sz (v+1) (xs.take len++ys))⟩:=by
 have hg:zi h b=Eg (.vec sz v xs):=gM;have bh:=(Eb.1 gM).1;simp only[kD,hg,yb,G7,Hu,cond_true,Eh hlen,Eh hl,Eh hb,G4.mpr hz,hp,G4.mpr Q,G8,jx,G4.mpr bh];rfl
theorem jhz {sz b v len i k}(hi:i<len):iR sz h (Eg (.az b v len)) (Eg (.int k (i:Int)))=Eg ⟨.dN b v (i*sz),E4,Ep,h⟩:=by
 have:idx len (.int k (i:Int))=Eg i:=by rw[xV];exact Td hi
 simp only[iR,this];rfl
theorem za8 {n}:qg p xc h0 al e h (.gC n)=Eg ⟨.dG n,G0,Ep,h⟩:=rfl
def M6 (n:Nat)(h:qi)(x:Option (AVal×Bool))(y:Option AVal):Option br:=match x,y with
 |some (.dG m,G0),Eg v=>cm (G1 m n&&G1 v.flat.length n&&v.flat.all qm) (Eg ⟨.aq v,E4,Ep,h⟩)|_,_=>Ep
theorem q77 {n m v}:M6 n h (Eg (.dG m,G0)) (Eg v)=cm (G1 m n&&G1 v.flat.length n&&v.flat.all qm) (Eg ⟨.aq v,E4,Ep,h⟩):=rfl
theorem j3q {n v}(hv:(G1 v.flat.length n&&v.flat.all qm)=G0):M6 n h (Eg (.dG n,G0)) (Eg v)=Eg ⟨.aq v,E4,Ep,h⟩:=by
 rw[q77,G7,Hf,hv];rfl
theorem j7m {n s x}:qg p xc h0 al e h (.dq n s x)=M6 n h (jm s e) (qj e x):=by
 simp only[qg,qn,M6];split
 .rename_i m v Y I;rw[Y,I];simp only[cm];cases (G1 m n&&G1 v.flat.length n&&v.flat.all qm)<;>rfl
 .rename_i AV;split
  .rename_i m v Y I;exact absurd I (AV m v Y)
  .rfl
end
attribute [go_sem] jyo zb8 zbu jwy j7k jyq zb7 jzd j1k j2y jwd zai j3h j92 j6b jxd jyd jti qP zcs za8 j3q j7m
end Go.Abs
