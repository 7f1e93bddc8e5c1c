/- Equations of the executor, third part. -/
import Derived.Test.YtlhfdilpecnjeaaGreatDoorAbsJ
set_option linter.all false
open List renaming getElem?_eq_some_iff->Ga,set_eq_take_append_cons_drop->Hb,drop_eq_getElem_cons->H2,drop_append->Ij,take_append->Ip,take_of_length_le->Iu,map_take->Ix,map_drop->Iy,length_cons->I5,append_nil->I6,map_append->I7,take_zero->I9,drop_zero->Ja
open Option renaming some->Gb,none->Ha
open Nat renaming ble_eq_true_of_le->Gd,ble->Hq,beq->Ig,blt_eq->Ii,beq_refl->Ik,blt->Ir,succ_mul->I0
open Bool renaming false->Hc,true->If,and_self->Io,true_and->Iz,and_eq_true->I1,true_or->Jb
namespace Go.Abs
section
variable {p:j8}{xc:XC}{h0:Nat}{al:ak Nat}{e:Env}{h:qh}{α:Type}
def Gj {α γ δ:Type}(g:Nat->γ->α->γ⊕δ):Nat->γ->List α->γ⊕δ
 |_,s,[]=>.inl s
 |i,s,x::l=>match g i s x with
  | .inl s'=>Gj g (i+1) s' l| .inr d=>.inr d
def j2s {γ δ:Type}(En:γ->q9×bg)(Ex:δ->q9×bg):γ⊕δ->q9×bg
 | .inl s=>En s| .inr d=>Ex d
@[simp] theorem zjj {γ δ:Type}{En:γ->q9×bg}{Ex:δ->q9×bg}{s:γ}:j2s En Ex (.inl s)=En s:=rfl
@[simp] theorem zgc {γ δ:Type}{En:γ->q9×bg}{Ex:δ->q9×bg}{s:δ}:j2s En Ex (.inr s)=Ex s:=rfl
theorem ji3 {c n r}(Q:r.1≠.normal):Gg p c n (Gb r)=Gb r:=by
 obtain⟨x,st⟩:=r
 cases x with
 |normal=>exact absurd rfl Q|ret=>rfl|exit id=>rfl
theorem jsh {n st h'}(hn:n=h.length)(G:st.heap=h++h')(Y:mT n st.env=If)(I:qt n h=If):gc n st=⟨st.env,h⟩:=by
 obtain⟨ev,hp⟩:=st;simp only at G Y;subst G hn;unfold gc
 cases h' with
 |nil=>simp
 |cons b h'=>
  have hle:Hq (h++b::h').length h.length=Hc:=by
   rw[nY];simp
  simp only[hle,cond_false,List.take_left',Y,I,Io,cond_true]
def BH (h:qh)(x i:Option AVal):Option bA:=match x,i with
 |some (.str s),Gb j=>(match idx s.length j with
   |some j=>(match s[j]? with
    |some c=>val h (.int .u8 c.toNat)
    |none=>Ha)
   |none=>Ha)
 |_,_=>Ha
theorem j9i {x i}:qf p xc h0 al e h (.dM x i)=BH h (qi e x) (qi e i):=by
 simp only[qf,qm,BH]
 cases qi e x with
 |none=>rfl
 |some v=>cases v with
  |str s=>cases qi e i<;>rfl|_=>cases qi e i<;>rfl
theorem ji0 {s:aj}{k:IntKind}{i:Nat}{c:UInt8}(hc:s[i]?=Gb c):BH h (Gb (.str s)) (Gb (.int k (i:Int)))=Gb ⟨.int .u8 c.toNat,Hc,Ha,h⟩:=by
 have hl:i<s.length:=(Ga.1 hc).1
 have:idx s.length (.int k (i:Int))=Gb i:=by rw[zJ,V4 hl]
 simp only[BH,this,hc,val]
theorem zlx {a b}:yb .eql (.str a) (.str b)=Gb (.bool (decide (a=b))):=by
 by_cases yO:a=b<;>simp[yb,FC,yO]
theorem zlq {a b}:yb .neq (.str a) (.str b)=Gb (.bool (!decide (a=b))):=by
 by_cases yO:a=b<;>simp[yb,FC,yO]
def Wz (h0 r:Nat)(h:qh)(x:Option AVal):Option bA:=match x with
 |some (.str s)=>iT (aQ h0 h r (.iter s 0)) (.ptr (h0+r) 0)|_=>Ha
theorem j36 {r s}:Wz h0 r h (Gb (.str s))=iT (aQ h0 h r (.iter s 0)) (.ptr (h0+r) 0):=rfl
theorem zg5 {r x}:qf p xc h0 al e h (.dF r x)=Wz h0 r h (qi e x):=by
 simp only[qf,qo,Wz]
 cases qi e x with
 |none=>rfl
 |some v=>cases v with
  |str s=>simp only[iT];cases aQ h0 h r (.iter s 0)<;>rfl|_=>rfl
def vJ (h:qh)(b:Nat)(x:Option aM):Option bA:=match x with
 |some (.iter s pos)=>bif Ir pos s.length then iT (jy h b (.iter s (pos+(qj s pos).2))) (.aI [.bool If,.int .i64 pos,.int .i32 (qj s pos).1])else val h (.aI [.bool Hc])|_=>Ha
theorem jl1 {b pos s}(hp:pos<s.length):vJ h b (Gb (.iter s pos))=iT (jy h b (.iter s (pos+(qj s pos).2))) (.aI [.bool If,.int .i64 pos,.int .i32 (qj s pos).1]):=by
 simp only[vJ,vI,hp,decide_true,cond_true]
theorem jkk {b pos s}(hp:¬pos<s.length):vJ h b (Gb (.iter s pos))=Gb ⟨.aI [.bool Hc],Hc,Ha,h⟩:=by
 simp only[vJ,vI,hp,decide_false,cond_false,val]
def WA (h0:Nat)(al:ak Nat)(h:qh)(x:Option AVal):Option bA:=match x with
 |some (.ptr b 0)=>ct (ze h0 al b) (vJ h b h[b]?)|_=>Ha
theorem j5b {b}:WA h0 al h (Gb (.ptr b 0))=ct (ze h0 al b) (vJ h b h[b]?):=rfl
theorem zli {x}:qf p xc h0 al e h (.fQ x)=WA h0 al h (qi e x):=by
 simp only[qf,qo,WA]
 cases qi e x with
 |none=>rfl
 |some v=>cases v with
  |ptr b o=>
   cases o with
   |succ o=>rfl
   |zero=>
    simp only[ct,zh,vJ,iT]
    cases ze h0 al b with
    |false=>rfl
    |true=>
     simp only[cond_true]
     cases h[b]? with
     |none=>rfl
     |some x=>cases x with
      |iter s pos=>
       simp only[]
       cases Ir pos s.length with
       |false=>rfl|true=>simp only[cond_true];cases jy h b (.iter s (pos+(qj s pos).2))<;>rfl
      |_=>rfl
  |_=>rfl
theorem O5 {s i c}(hc:s[i]?=Gb c)(hl:c.toNat<128):qj s i=(c.toNat,1):=by
 have hg:(ByteArray.get! ⟨⟨s⟩⟩ (i+0))=c:=by
  obtain⟨Y,I⟩:=Ga.1 hc;simp[ByteArray.get!,Y,I]
 simp only[qj,Utf8.decode,hg,hl,if_true]
theorem WB {s i c}(hc:s[i]?=Gb c)(hl:¬c.toNat<128):128<=(qj s i).1:=by
 have hg:(ByteArray.get! ⟨⟨s⟩⟩ (i+0))=c:=by
  obtain⟨Y,I⟩:=Ga.1 hc;simp[ByteArray.get!,Y,I]
 simp only[qj,Utf8.decode,hg,hl,if_false,Utf8.runeError];split
 .split<;>simp<;>omega
 .split
  .split
   .next hh=>simp only[I1,decide_eq_true_eq]at hh;simp only;omega
   .decide
  .split
   .split
    .next hh=>simp only[I1,decide_eq_true_eq]at hh;simp only;omega
    .decide
   .decide
def xp (h:qh)(zero:AVal)(r:Option (Option (Nat×AVal))):Option bA:=match r with
 |some (Gb (_,v))=>val h v|some Ha=>val h zero|none=>Ha
theorem j9v {z v i}:xp h z (Gb (Gb (i,v)))=Gb ⟨v,Hc,Ha,h⟩:=rfl
theorem j6q {z}:xp h z (Gb Ha)=Gb ⟨z,Hc,Ha,h⟩:=rfl
def O6 (h:qh)(kd:Kd)(z kv:AVal)(x:Option aM):Option bA:=match x with
 |some (.map es)=>xp h z (j6 kd kv es 0)|_=>Ha
theorem zcz {kd z kv es}:O6 h kd z kv (Gb (.map es))=xp h z (j6 kd kv es 0):=rfl
def WC (h0:Nat)(al:ak Nat)(h:qh)(kd:Kd)(z:AVal)(m k:Option AVal):Option bA:=match m,k with
 |some (.map b),Gb kv=>ct (ze h0 al b) (O6 h kd z kv h[b]?)|some .cg,Gb _=>val h z|_,_=>Ha
theorem j3v {kd z kv b}:WC h0 al h kd z (Gb (.map b)) (Gb kv)=ct (ze h0 al b) (O6 h kd z kv h[b]?):=rfl
theorem zjt {kd z m k}:qf p xc h0 al e h (.lookup kd z Hc m k)=WC h0 al h kd z (qi e m) (qi e k):=by
 simp only[qf,yo,WC]
 cases qi e m with
 |none=>cases qi e k<;>rfl
 |some v=>cases qi e k with
  |none=>cases v<;>rfl
  |some kv=>cases v with
   |map b=>
    simp only[ct,zh,O6,xp]
    cases ze h0 al b with
    |false=>rfl
    |true=>
     simp only[cond_true]
     cases h[b]? with
     |none=>rfl
     |some x=>cases x with
      |map es=>
       simp only[]
       cases j6 kd kv es 0 with
       |none=>rfl|some r=>cases r<;>rfl
      |_=>rfl
   |_=>rfl
def Gk (h:qh)(b:Nat)(es:List (AVal×AVal))(kv v:AVal)(r:Option (Option (Nat×AVal))):Option bA:=match r with
 |some (Gb (i,_))=>iT (jy h b (.map (sP es i v))) .undef|some Ha=>ct (Hq es.length 1073741824) (iT (jy h b (.map (es++[(kv,v)]))) .undef)|none=>Ha
theorem zcv {b es kv v}:Gk h b es kv v (Gb Ha)=ct (Hq es.length 1073741824) (iT (jy h b (.map (es++[(kv,v)]))) .undef):=rfl
def O7 (h:qh)(b:Nat)(kd:Kd)(kv v:AVal)(x:Option aM):Option bA:=match x with
 |some (.map es)=>Gk h b es kv v (j6 kd kv es 0)|_=>Ha
theorem zf2 {b kd kv v es}:O7 h b kd kv v (Gb (.map es))=Gk h b es kv v (j6 kd kv es 0):=rfl
def WD (h0:Nat)(al:ak Nat)(h:qh)(kd:Kd)(m k x:Option AVal):Option bA:=match m,k,x with
 |some (.map b),Gb kv,Gb v=>ct (ze h0 al b) (O7 h b kd kv v h[b]?)|_,_,_=>Ha
theorem zj9 {b kd kv v}:WD h0 al h kd (Gb (.map b)) (Gb kv) (Gb v)=ct (ze h0 al b) (O7 h b kd kv v h[b]?):=rfl
theorem j4a {kd m k x}:qf p xc h0 al e h (.mapUpdate kd m k x)=WD h0 al h kd (qi e m) (qi e k) (qi e x):=by
 simp only[qf,qo,WD]
 cases qi e m with
 |none=>cases qi e k<;>cases qi e x<;>rfl
 |some v=>cases qi e k with
  |none=>cases v<;>cases qi e x<;>rfl
  |some kv=>cases qi e x with
   |none=>cases v<;>rfl
   |some xv=>cases v with
    |map b=>
     simp only[ct,zh,O7,Gk,iT]
     cases ze h0 al b with
     |false=>rfl
     |true=>
      simp only[cond_true]
      cases h[b]? with
      |none=>rfl
      |some x=>cases x with
       |map es=>
        simp only[]
        cases j6 kd kv es 0 with
        |none=>rfl
        |some r=>cases r with
         |none=>
          simp only[]
          cases Hq es.length 1073741824 with
          |false=>rfl|true=>simp only[cond_true];cases jy h b (.map (es++[(kv,xv)]))<;>rfl
         |some r=>simp only[];cases jy h b (.map (sP es r.1 xv))<;>rfl
       |_=>rfl
    |_=>rfl
def jiw (agg:Bool)(len sz:Nat)(h:qh)(x i:Option AVal):Option bA:=match x,i with
  |some (.ptr b o),Gb j=>(match idx len j with
   |some j=>val h (.ptr b (o+j*sz))
   |none=>Ha)
  |some (.aq (.agg cs)),Gb j=>(match idx len j with
   |some j=>(match part agg cs (j*sz) sz with
    |some v=>bif Bool.xor agg v.isAgg then Ha else val h (.aq v)
    |none=>Ha)
   |none=>Ha)
  |_,_=>Ha
theorem j5h {agg len sz x i}:qf p xc h0 al e h (.fc agg len sz x i)=jiw agg len sz h (qi e x) (qi e i):=rfl
end
section
variable {p:j8}{xc:XC}{h0:Nat}{al:ak Nat}{e:Env}{h:qh}{α:Type}
theorem jzx {n s v xs}:zj n (.vec s v xs)=If:=rfl
theorem vK {n b v k}:below n (.az b v k)=decide (b<n):=by
 simp only[below]
 cases hb:Ir b n with
 |true=>simp[Ii.mp hb]
 |false=>
  have:¬b<n:=fun h=>by rw[Ii.mpr h]at hb;cases hb
  simp[this]
def zi (f:α->AVal)(l:List α):List AVal:=(l.map f).flatMap AVal.flat
theorem BI {f:α->AVal}{x l}:zi f (x::l)=(f x).flat++zi f l:=rfl
theorem jat {f:α->AVal}{l m}:zi f (l++m)=zi f l++zi f m:=by simp[zi]
theorem O8 {f:α->AVal}{sz}(hf:∀x,(f x).flat.length=sz)(l:List α):(zi f l).length=l.length*sz:=by
 induction l with
 |nil=>simp[zi]|cons x l ih=>rw[BI,List.length_append,hf,ih,I5,I0];omega
theorem qzh {f:α->AVal}{sz}(hf:∀x,(f x).flat.length=sz):∀ {l:List α} {i:Nat},(zi f l).drop (i*sz)=zi f (l.drop i)
 | [],i=>by simp[zi]
 |x::l,0=>by simp
 |x::l,i+1=>by
  rw[BI,List.drop_succ_cons,<-qzh hf,show(i+1)*sz=(f x).flat.length+i*sz by rw[hf,I0];omega,Ij];simp
theorem jqy {f:α->AVal}{sz i l x}(hf:∀x,(f x).flat.length=sz)(M:l[i]?=Gb x):(zi f l).drop (i*sz)=(f x).flat++zi f (l.drop (i+1)):=by
 rw[qzh hf];have aW:=(Ga.1 M).1;rw[H2 aW,BI,(Ga.1 M).2]
theorem Gl {f:α->AVal}{sz i o n l x}(hf:∀x,(f x).flat.length=sz)(M:l[i]?=Gb x)(ho:o+n<=sz):((zi f l).drop (i*sz+o)).take n=((f x).flat.drop o).take n/\i*sz+o+n<=(zi f l).length:=by
 have aW:=(Ga.1 M).1;refine⟨?_,?_⟩
 .rw[<-List.drop_drop,jqy hf M,Ij,Ip];have Y:(f x).flat.length=sz:=hf x
  have I:n-((f x).flat.drop o).length=0:=by rw[List.length_drop];omega
  rw[I,I9,I6]
 .rw[O8 hf];have:(i+1)*sz<=l.length*sz:=Nat.mul_le_mul_right _ aW;rw[I0]at this;omega
theorem q5a {f:α->AVal}{sz i o l x y us}(hf:∀x,(f x).flat.length=sz)(M:l[i]?=Gb x)(ho:o+us.length<=sz)(hy:(f y).flat=(f x).flat.take o++us++(f x).flat.drop (o+us.length)):
  (zi f l).take (i*sz+o)++us++(zi f l).drop (i*sz+o+us.length)=zi f (l.set i y):=by
 have aW:=(Ga.1 M).1
 have BJ:l=l.take i++x::l.drop (i+1):=by
  conv=>lhs;rw[<-List.take_append_drop i l,H2 aW,(Ga.1 M).2]
 have bO:l.set i y=l.take i++y::l.drop (i+1):=by rw[Hb,if_pos aW]
 have hl:(zi f (l.take i)).length=i*sz:=by rw[O8 hf,List.length_take,Nat.min_eq_left (by omega)]
 have Y:(f x).flat.length=sz:=hf x;rw[bO]
 conv=>lhs;rw[BJ]
 simp only[jat,BI];rw[hy,Ip,Ij,hl];have e1:(zi f (l.take i)).take (i*sz+o)=zi f (l.take i):=Iu (by omega);have e2:(zi f (l.take i)).drop (i*sz+o+us.length)=[]:=List.drop_eq_nil_of_le (by omega);rw[e1,e2,List.nil_append,show i*sz+o-i*sz=o by omega,show i*sz+o+us.length-i*sz=o+us.length by omega,Ip,Ij]
 have e3:o-(f x).flat.length=0:=by omega
 have e4:o+us.length-(f x).flat.length=0:=by omega
 rw[e3,e4,I9,Ja,I6];simp[List.append_assoc]
def bU (f:α->AVal)(l:List α):List (AVal×Bool):=cellsOf (zi f l)
theorem z6 {vs}:(cellsOf vs).map (·.1)=vs:=by
 induction vs with
 |nil=>rfl|cons v vs ih=>simp only[cellsOf,List.map_cons]at ih ⊢;rw[ih]
theorem xq {f:α->AVal}{sz i o n l x}(hf:∀x,(f x).flat.length=sz)(M:l[i]?=Gb x)(ho:o+n<=sz):zm (bU f l) (i*sz+o) n=Gb (((f x).flat.drop o).take n):=by
 obtain⟨Y,I⟩:=Gl hf M ho;unfold zm
 have:(bU f l).length=(zi f l).length:=by simp[bU,cellsOf]
 rw[this,Gd I];simp only[cond_true,Gb.injEq];rw[<-Y];simp only[bU,Ix,Iy,z6]
theorem nZ {f:α->AVal}{sz i o l x y us}(hf:∀x,(f x).flat.length=sz)(M:l[i]?=Gb x)(ho:o+us.length<=sz)(G:us.all qk=If)(hy:(f y).flat=(f x).flat.take o++us++(f x).flat.drop (o+us.length)):
  jx (bU f l) (i*sz+o) us=Gb (bU f (l.set i y)):=by
 obtain⟨_,I⟩:=Gl hf M ho;unfold jx
 have:(bU f l).length=(zi f l).length:=by simp[bU,cellsOf]
 rw[this,Gd I,G];simp only[Io,cond_true,Gb.injEq];rw[show bU f (l.set i y)=cellsOf (zi f (l.set i y))from rfl,<-q5a hf M ho hy];simp[bU,cellsOf,I7,Ix,Iy]
theorem jbe {f:α->AVal}{sz i o l x y u}(hf:∀x,(f x).flat.length=sz)(M:l[i]?=Gb x)(ho:o<sz)(hy:(f y).flat=(f x).flat.set o u):(bU f l).set (i*sz+o) (u,Hc)=bU f (l.set i y):=by
 have hl:(f x).flat.length=sz:=hf x;have I:=(Gl (n:=1) (o:=o) hf M (by omega)).2;have:=q5a (us:=[u]) (y:=y) (o:=o) hf M (by simp;omega) (by rw[hy,Hb,if_pos (show o<(f x).flat.length by omega)];simp);rw[show bU f (l.set i y)=cellsOf (zi f (l.set i y))from rfl,<-this];simp only[bU,cellsOf,I5,List.length_nil];rw[Hb,if_pos (by simp;omega)];simp[I7,Ix,Iy]
theorem j87 {f:α->AVal}{sz i o n b v:Nat}{l:List α}{x:α}(hf:∀x,(f x).flat.length=sz)(hb:h[b]?=Gb (.vec sz v (l.map f)))(pI:sO h0 al b=If)(M:l[i]?=Gb x)(ho:o+n<=sz):
  iu h0 al If n h (Gb (.dW b v (i*sz+o)))=Gb ⟨.agg (((f x).flat.drop o).take n),Hc,Ha,h⟩:=by
 obtain⟨Y,I⟩:=Gl hf M ho;have hg:zh h b=Gb (.vec sz v (l.map f)):=hb
 show(bif sO h0 al b then(match zh h b with
   |some (.vec _ dO xs)=>bif Ig v dO&&Hq (i*sz+o+n) (xs.flatMap AVal.flat).length then(bif If then val h (.agg (((xs.flatMap AVal.flat).drop (i*sz+o)).take n))else(match((xs.flatMap AVal.flat).drop (i*sz+o)).take n with
     | [v]=>val h v
     |_=>Ha))else Ha
   |_=>Ha)else Ha)=_
 rw[pI,hg];simp only[cond_true,Ik,Iz];have h3:Hq (i*sz+o+n) ((l.map f).flatMap AVal.flat).length=If:=Gd I;rw[h3];simp only[cond_true,val];have h4:(((l.map f).flatMap AVal.flat).drop (i*sz+o)).take n=((f x).flat.drop o).take n:=Y;rw[h4]
theorem jkq {f:α->AVal}{sz i b v:Nat}{l:List α}{x:α}(hf:∀x,(f x).flat.length=sz)(hb:h[b]?=Gb (.vec sz v (l.map f)))(pI:sO h0 al b=If)(M:l[i]?=Gb x):
  iu h0 al If sz h (Gb (.dW b v (i*sz)))=Gb ⟨.agg (f x).flat,Hc,Ha,h⟩:=by
 have:=j87 (al:=al) (h0:=h0) (o:=0) (n:=sz) hf hb pI M (by omega);rw[Nat.add_zero,Ja,Iu (by rw[hf];exact Nat.le_refl _)]at this;exact this
theorem jw8 {f:α->AVal}{sz i o b v:Nat}{l:List α}{x:α}{u}(hf:∀x,(f x).flat.length=sz)(hb:h[b]?=Gb (.vec sz v (l.map f)))(pI:sO h0 al b=If)(M:l[i]?=Gb x)(hu:(f x).flat[o]?=Gb u):
  iu h0 al Hc 1 h (Gb (.dW b v (i*sz+o)))=Gb ⟨u,Hc,Ha,h⟩:=by
 have aW:=(Ga.1 hu).1;rw[hf]at aW;obtain⟨Y,I⟩:=Gl (n:=1) hf M (by omega:o+1<=sz);have hg:zh h b=Gb (.vec sz v (l.map f)):=hb
 show(bif sO h0 al b then(match zh h b with
   |some (.vec _ dO xs)=>bif Ig v dO&&Hq (i*sz+o+1) (xs.flatMap AVal.flat).length then(bif Hc then val h (.agg (((xs.flatMap AVal.flat).drop (i*sz+o)).take 1))else(match((xs.flatMap AVal.flat).drop (i*sz+o)).take 1 with
     | [v]=>val h v
     |_=>Ha))else Ha
   |_=>Ha)else Ha)=_
 rw[pI,hg];simp only[cond_true,Ik,Iz];have h3:Hq (i*sz+o+1) ((l.map f).flatMap AVal.flat).length=If:=Gd I
 have h4:(((l.map f).flatMap AVal.flat).drop (i*sz+o)).take 1=[u]:=by
  show((zi f l).drop (i*sz+o)).take 1=[u];have Uy:=(Ga.1 hu).1;rw[Y,H2 Uy,(Ga.1 hu).2];rfl
 rw[h3,h4];rfl
def qP (h0:Nat)(r sz bytes:Nat)(h:qh)(x y:Option AVal):Option bA:=match x,y with
 |some (.list If _ []),Gb vy=>(match yd sz vy with
   |some ys=>
    bif Hq ys.length 1073741824&&Hq bytes 4096&&Ir 0 sz&&!ys.isEmpty&&qp 0 ys&&Ir r 1000 then
     (match aQ h0 h r (.vec sz 0 ys)with
      |some h'=>val h' (.az (h0+r) 0 ys.length)
      |none=>Ha)else Ha
   |none=>Ha)
 |some (.az b bS len),Gb vy=>(match zh h b with
  |some (.vec dm dO xs)=>(match yd sz vy with
   |some ys=>
    bif Ig bS dO&&Ig sz dm&&Hq len xs.length&&Hq (len+ys.length) 1073741824&&Hq bytes 4096&&Ir 0 sz&&qp 0 ys&&Ir r 1000 then
     (match jy h b (.vec sz (bS+1) (xs.take len++ys))with
      |some h'=>val h' (.az b (bS+1) (len+ys.length))
      |none=>Ha)else Ha
   |none=>Ha)
  |_=>Ha)
 |_,_=>Ha
theorem zmj {r sz bytes x y}:qf p xc h0 al e h (.gZ r sz bytes x y)=qP h0 r sz bytes h (qi e x) (qi e y):=rfl
theorem q8g {r sz z bytes ys b h'}(hl:ys.length<=1073741824)(hb:bytes<=4096)(hz:0<sz)(bN:ys≠[])(hp:qp 0 ys=If)(Q:r<1000)(hn:aQ h0 h r (.vec sz 0 ys)=Gb h'):qP h0 r sz bytes h (Gb (.list If z [])) (Gb (.list b sz ys))=Gb ⟨.az (h0+r) 0 ys.length,Hc,Ha,h'⟩:=by
 have h5:ys.isEmpty=Hc:=by cases ys<;>simp at bN ⊢
 simp only[qP,yd,Ik,Jb,cond_true,Gd hl,Gd hb,Ii.mpr hz,h5,hp,Ii.mpr Q,Bool.not_false,Io,hn];rfl
theorem jjb {r sz bytes b v len xs ys c}(ie:h[b]?=Gb (.vec sz v xs))(hlen:len<=xs.length)(hl:len+ys.length<=1073741824)(hb:bytes<=4096)(hz:0<sz)(hp:qp 0 ys=If)(Q:r<1000):
  qP h0 r sz bytes h (Gb (.az b v len)) (Gb (.list c sz ys))=Gb ⟨.az b (v+1) (len+ys.length),Hc,Ha,h.set b (.vec sz (v+1) (xs.take len++ys))⟩:=by
 have hg:zh h b=Gb (.vec sz v xs):=ie;have aW:=(Ga.1 ie).1;simp only[qP,hg,yd,Ik,Jb,cond_true,Gd hlen,Gd hl,Gd hb,Ii.mpr hz,hp,Ii.mpr Q,Io,jy,Ii.mpr aW];rfl
theorem jjc {sz b v len i k}(hi:i<len):mM sz h (Gb (.az b v len)) (Gb (.int k (i:Int)))=Gb ⟨.dW b v (i*sz),Hc,Ha,h⟩:=by
 have:idx len (.int k (i:Int))=Gb i:=by rw[zJ];exact V4 hi
 simp only[mM,this];rfl
theorem zc6 {n}:qf p xc h0 al e h (.gY n)=Gb ⟨.db n,If,Ha,h⟩:=rfl
def O9 (n:Nat)(h:qh)(x:Option (AVal×Bool))(y:Option AVal):Option bA:=match x,y with
 |some (.db m,If),Gb v=>ct (Ig m n&&Ig v.flat.length n&&v.flat.all qk) (Gb ⟨.aq v,Hc,Ha,h⟩)|_,_=>Ha
theorem q8e {n m v}:O9 n h (Gb (.db m,If)) (Gb v)=ct (Ig m n&&Ig v.flat.length n&&v.flat.all qk) (Gb ⟨.aq v,Hc,Ha,h⟩):=rfl
theorem zb7 {n v}(hv:(Ig v.flat.length n&&v.flat.all qk)=If):O9 n h (Gb (.db n,If)) (Gb v)=Gb ⟨.aq v,Hc,Ha,h⟩:=by
 rw[q8e,Ik,Iz,hv];rfl
theorem zeh {n s x}:qf p xc h0 al e h (.dv n s x)=O9 n h (jp s e) (qi e x):=by
 simp only[qf,qm,O9];split
 .rename_i m v Y I;rw[Y,I];simp only[ct];cases (Ig m n&&Ig v.flat.length n&&v.flat.all qk)<;>rfl
 .rename_i Jr;split
  .rename_i m v Y I;exact absurd I (Jr m v Y)
  .rfl
end
attribute [go_sem] j9i zlx zlq j36 zg5 j5b zli j9v j6q zcz j3v zjt zcv zf2 zj9 j4a j5h jzx vK zmj zc6 zb7 zeh
end Go.Abs
