/- Decimal numbers. -/
import Derived.Test.YtlhfdilpecnjeaaGreatDoorLA
import Derived.Test.YtlhfdilpecnjeaaGreatDoorWS
set_option linter.unusedVariables false
set_option linter.unusedSimpArgs false
set_option maxRecDepth 100000
noncomputable section
open List renaming length_append->En,length_cons->E6,length_singleton->Ha,mem_cons_of_mem->H2,all_eq_true->H3,take_succ_cons->H4,mem_append->H8,append_inj->H9,cons_append->Ia,take_of_length_le->Ib,mem_cons->Ic,take_append_drop->If,cons->Ig,take_append_of_le_length->Ij,mem_singleton->Ik,mem_cons_self->Il,take_append->Ip,take_left'->Ix,drop_of_length_le->Iy,length_pos_iff->I2,foldl_append->I3,append_assoc->I5,drop_append->I6,foldl_cons->I7,drop_left'->I9,length_map->Ja,replicate->Jb,map_cons->Jc,mem_map->Jd
open Nat renaming le_refl->Hb,pow_le_pow_right->I1
open Option renaming some->Hc,none->Iq
open UInt8 renaming ofNat->Io,toNat_inj->Iw
namespace Go.Z
open Go Go.Abs
def iR:Int->aj->Option Int
 |n,[]=>Hc n
 |n,c::t=>if 48<=c.toNat/\c.toNat<=57 then iR (10*n+((c.toNat:Int)-48)) t else Iq
theorem qtl:∀ (n:Int) (b:aj) (c:UInt8),iR n (b++[c])=match iR n b with
  |some m=>if 48<=c.toNat/\c.toNat<=57 then Hc (10*m+((c.toNat:Int)-48))else Iq
  |none=>Iq
 |n,[],c=>rfl
 |n,x::t,c=>by
  rw[Ia,iR,iR];split
  .exact qtl _ t c
  .rfl
theorem qys:∀ {b:aj} {n v:Int} {k:Nat},0<=n->n<10^k->iR n b=Hc v->0<=v/\v<10^(k+b.length)
 | [],n,v,k,h0,Y,h=>by cases h;exact⟨h0,by simpa using Y⟩
 |c::t,n,v,k,h0,Y,h=>by
  rw[iR]at h;split at h
  .rename_i hc;have:=qys (k:=k+1) (by omega) (by rw[Int.pow_succ];omega) h;rw[E6,show k+(t.length+1)=k+1+t.length by omega];exact this
  .cases h
def lu (b:aj):Option Int:=if b=[]\/9<b.length\/(1<b.length/\b.head?=Hc 48)then Iq else iR 0 b
theorem jgk {b:aj}{v:Int}(h:lu b=Hc v):0<=v/\v<1000000000:=by
 unfold lu at h;split at h
 .cases h
 .rename_i hc;have Y:¬9<b.length:=fun e=>hc (.inr (.inl e));have:=qys (k:=0) (by omega) (by omega) h;refine⟨this.1,Int.lt_of_lt_of_le this.2 ?_⟩;rw[Nat.zero_add,show(1000000000:Int)=((10^9:Nat):Int) by decide,show((10:Int)^b.length)=((10^b.length:Nat):Int) by simp];exact Int.ofNat_le.2 (I1 (by omega) (by omega))
theorem yl {x:Int}(Y:-9223372036854775808<=x)(I:x<=9223372036854775807):qd .i64 x=x:=N7 Y I
theorem YW {x:Int}(Y:0<=x)(I:x<=2000000):qd .i32 x=x:=by
 rw[xR];simp only[IntKind.wrap,IntKind.signed,IntKind.bits];simp;omega
theorem jta {i:Nat}(h:i<=9):(10:Int)^i<=1000000000:=by
 rw[show(1000000000:Int)=((10^9:Nat):Int) by decide,show((10:Int)^i)=((10^i:Nat):Int) by simp];exact Int.ofNat_le.2 (I1 (by omega) (by omega))
theorem jn3 {s:aj}(h:0<s.length):s.head?=Hc s[0]:=by
 cases s with
 |nil=>simp at h|cons a t=>rfl
theorem tN {u:Nat}(h:u<10):Lib.decDigits u=[Io (48+u)]:=by rw[Lib.decDigits,dif_pos h]
theorem q3o {x:Int}(h0:0<=x)(Y:x<128):(Utf8.encode x).data.toList=[Io x.toNat]:=by
 have hv:Utf8.valid x=true:=by simp[Utf8.valid];omega
 have hc:x.toNat<128:=by omega
 simp only[Utf8.encode,hv,if_true,hc]
theorem zZ {u:Nat}(h:¬u<10):Lib.decDigits u=Lib.decDigits (u / 10)++[Io (48+u % 10)]:=by rw[Lib.decDigits,dif_neg h]
theorem GY:∀ (k u:Nat),u<10^(k+1)->(Lib.decDigits u).length<=k+1
 |0,u,h=>by rw[tN (by simpa using h)];simp
 |k+1,u,h=>by
  by_cases hu:u<10
  .rw[tN hu];simp
  .have:=GY k (u / 10) (by rw[Nat.pow_succ]at h;omega);rw[zZ hu,En,Ha];omega
theorem q2v (u:Nat):0<(Lib.decDigits u).length:=by
 by_cases hu:u<10
 .rw[tN hu];simp
 .rw[zZ hu];simp
theorem Fk {d:Nat}(h:d<10):(Io (48+d)).toNat=48+d:=by
 rw[UInt8.toNat_ofNat'];omega
theorem SN:∀ (n u:Nat),u<=n->iR 0 (Lib.decDigits u)=Hc (u:Int)
 |n,u,h=>by
  by_cases hu:u<10
  .rw[tN hu,iR,Fk hu,if_pos (by omega),iR]
   congr 1;omega
  .cases n with
   |zero=>omega
   |succ n=>
    rw[zZ hu,qtl,SN n (u / 10) (by omega)];simp only[Fk (Nat.mod_lt u (by omega:0<10))];rw[if_pos (by omega)]
    congr 1;omega
theorem q9f:∀ (n u:Nat),u<=n->0<u->(Lib.decDigits u).head?≠Hc 48
 |n,u,h,h0=>by
  by_cases hu:u<10
  .rw[tN hu];intro e;have e1:Io (48+u)=48:=Hc.inj e;have:=Fk hu;rw[e1]at this;have I:(48:UInt8).toNat=48:=rfl;omega
  .cases n with
   |zero=>omega
   |succ n=>
    have ih:=q9f n (u / 10) (by omega) (by omega);rw[zZ hu];have hp:=q2v (u / 10)
    cases hd:Lib.decDigits (u / 10)with
    |nil=>rw[hd]at hp;simp at hp|cons x t=>rw[hd]at ih;exact ih
theorem jci {u:Nat}(h:u<1000000000):lu (Lib.decDigits u)=Hc (u:Int):=by
 have Y:=GY 8 u (by omega);have I:=q2v u;unfold lu;rw[if_neg,SN u u (Hb _)];rintro (e|e|⟨e1,e2⟩)
 .rw[e]at I;simp at I
 .omega
 .by_cases hu:u<10
  .rw[tN hu]at e1;simp at e1
  .exact q9f u u (Hb _) (by omega) e2
theorem qwy:∀ (n u:Nat),u<=n->∀c∈Lib.decDigits u,48<=c.toNat/\c.toNat<=57
 |n,u,h,c,hc=>by
  by_cases hu:u<10
  .rw[tN hu]at hc;obtain rfl:=Ik.1 hc;rw[Fk hu];omega
  .cases n with
   |zero=>omega
   |succ n=>
    rw[zZ hu]at hc;rcases H8.1 hc with hc|hc
    .exact qwy n (u / 10) (by omega) c hc
    .obtain rfl:=Ik.1 hc;have:=Nat.mod_lt u (by omega:0<10);rw[Fk this];omega
theorem q76:∀ (n:Nat) (b:aj) (v:Int),b.length<=n->b≠[]->(b.length=1\/b.head?≠Hc 48)->iR 0 b=Hc v->0<=v/\Lib.decDigits v.toNat=b
 |0,b,v,hn,hb,_,_=>absurd (List.length_eq_zero_iff.1 (by omega)) hb
 |n+1,b,v,hn,hb,hh,hd=>by
  obtain⟨t,c,rfl⟩:∃t c,b=t++[c]:=⟨b.dropLast,b.getLast hb,(List.dropLast_concat_getLast hb).symm⟩;rw[qtl]at hd;by_cases ht:t=[]
  .subst ht;simp only[iR]at hd;split at hd
   .rename_i hc;cases hd;refine⟨by omega,?_⟩;rw[tN (by omega)];simp only[List.nil_append,Ig.injEq,and_true];apply Iw.1;rw[Fk (by omega)];omega
   .cases hd
  .cases hm:iR 0 t with
   |none=>rw[hm]at hd;cases hd
   |some m=>
    rw[hm]at hd;dsimp only at hd;split at hd
    .rename_i hc;cases hd;have bg:0<t.length:=I2.2 ht
     have FO:t.head?≠Hc 48:=by
      rcases hh with hh|hh
      .simp only[En,Ha]at hh;omega
      .cases t with
       |nil=>exact absurd rfl ht|cons x t=>exact hh
     have ih:=q76 n t m (by simp only[En,Ha]at hn;omega) ht (.inr FO) hm
     have hm0:m≠0:=by
      rintro rfl;have I:=ih.2;rw[show(0:Int).toNat=0 from rfl,tN (by omega)]at I;exact FO (by rw[<-I];rfl)
     refine⟨by omega,?_⟩;rw[zZ (by omega)]
     have e1:(10*m+((c.toNat:Int)-48)).toNat / 10=m.toNat:=by omega
     have e2:(10*m+((c.toNat:Int)-48)).toNat % 10=c.toNat-48:=by omega
     rw[e1,e2,ih.2]
     congr 2
     apply Iw.1;rw[Fk (by omega)];omega
    .cases hd
theorem q7w {b:aj}{v:Int}(h:lu b=Hc v):0<=v/\Lib.decDigits v.toNat=b:=by
 unfold lu at h;split at h
 .cases h
 .rename_i hc;have Y:b≠[]:=fun e=>hc (.inl e)
  have I:b.length=1\/b.head?≠Hc 48:=by
   by_cases e:b.length=1
   .exact .inl e
   .refine .inr fun e2=>hc (.inr (.inr ⟨?_,e2⟩));have:=I2.2 Y;omega
  exact q76 b.length b v (Hb _) Y I h
end Go.Z
namespace Go.Z
open Go Go.Abs Go.W
def iQ (x:Int)(c:UInt8):Int:=(313*x+(c.toNat:Int)) % 9999889
def gw (s:aj):Int:=s.foldl iQ 1
theorem YX:∀ (s:aj) (x:Int),0<=x->x<9999889->0<=s.foldl iQ x/\s.foldl iQ x<9999889
 | [],x,h0,Y=>⟨h0,Y⟩|c::s,x,h0,Y=>YX s (iQ x c) (by unfold iQ;omega) (by unfold iQ;omega)
theorem CI (s:aj):0<=gw s/\gw s<9999889:=YX s 1 (by omega) (by omega)
theorem jbu:∀ (s:aj) {x y:Int},0<=x->x<9999889->0<=y->y<9999889->x≠y->s.foldl iQ x≠s.foldl iQ y
 | [],x,y,_,_,_,_,h=>h|c::s,x,y,h0,Y,I,h3,h=>jbu s (by unfold iQ;omega) (by unfold iQ;omega) (by unfold iQ;omega) (by unfold iQ;omega) (by unfold iQ;omega)
theorem jzr {a b:aj}{c d:UInt8}(h:c≠d):gw (a++c::b)≠gw (a++d::b):=by
 unfold gw;rw[I3,I3,I7,I7];have hb:=CI a;unfold gw at hb;have Y:c.toNat≠d.toNat:=fun e=>h (Iw.1 e);have I:=c.toNat_lt;have h3:=d.toNat_lt;refine jbu b (by unfold iQ;omega) (by unfold iQ;omega) (by unfold iQ;omega) (by unfold iQ;omega) ?_;unfold iQ;omega
def lq (n:Int):aj:=Jb (7-(Lib.decDigits n.toNat).length) 48++Lib.decDigits n.toNat
theorem q4p {n:Int}(h0:0<=n)(Y:n<10000000):(lq n).length=7:=by
 have:=GY 6 n.toNat (by omega);unfold lq;rw[En,List.length_replicate];omega
theorem qp2:∀ (k:Nat) (t:aj),iR 0 (Jb k 48++t)=iR 0 t
 |0,t=>rfl
 |k+1,t=>by
  rw[List.replicate_succ,Ia,iR,if_pos (by decide)];exact qp2 k t
theorem jjq {m n:Int}(hm:0<=m)(hn:0<=n)(h:lq m=lq n):m=n:=by
 have Y:iR 0 (lq m)=iR 0 (lq n):=by rw[h]
 unfold lq at Y;rw[qp2,qp2,SN _ _ (Hb _),SN _ _ (Hb _)]at Y;have:=Hc.inj Y;omega
def kI (c:UInt8):Bool:=decide (48<=c.toNat)&&decide (c.toNat<=57)
theorem q3t (n:Int):(lq n).all kI=true:=by
 rw[H3];intro c hc;unfold kI;unfold lq at hc;rcases H8.1 hc with hc|hc
 .obtain⟨_,rfl⟩:=List.mem_replicate.1 hc;rfl
 .have:=qwy _ _ (Hb _) c hc;simp[this.1,this.2]
theorem Ac {v:Int}(h:0<=v):Lib.itoa v=Lib.decDigits v.toNat:=by
 unfold Lib.itoa;rw[if_neg (by omega)]
def nc:List aj->ak Int
 | []=>Hc []
 |w::ws=>match lu w with
  |none=>Iq
  |some v=>match nc ws with
   |none=>Iq|some l=>Hc (v::l)
theorem qzv:∀ {vs:List Int},(∀v∈vs,0<=v/\v<1000000000)->nc (vs.map Lib.itoa)=Hc vs
 | [],_=>rfl
 |v::vs,h=>by
  have hv:=h v (Il ..);rw[Jc,nc,Ac hv.1,jci (by omega),qzv fun x M=>h x (H2 _ M)];simp only[Int.toNat_of_nonneg hv.1]
theorem q0q:∀ {ws:List aj} {vs:List Int},nc ws=Hc vs->vs.map Lib.itoa=ws/\∀v∈vs,0<=v/\v<1000000000
 | [],vs,h=>by cases h;exact⟨rfl,by simp⟩
 |w::ws,vs,h=>by
  rw[nc]at h
  cases hw:lu w with
  |none=>rw[hw]at h;cases h
  |some v=>
   rw[hw]at h;dsimp only at h
   cases Q:nc ws with
   |none=>rw[Q]at h;cases h
   |some l=>
    rw[Q]at h;cases h;have Y:=q7w hw;have I:=q0q Q;have h3:=jgk hw;refine⟨by rw[Jc,Ac Y.1,Y.2,I.1],fun x M=>?_⟩;rcases Ic.1 M with rfl|M
    .exact h3
    .exact I.2 x M
theorem q3v:∀ x∈cA,x.1≠[]/\(x.1.all fun c=>decide (97<=c.toNat))=true:=by decide
theorem PV {k:aj}{f}(h:ye k=Hc f):(k,f)∈cA:=by
 unfold ye at h;obtain⟨x,Y,rfl⟩:=Option.map_eq_some_iff.1 h;have I:=List.find?_some Y
 have I:x.1=k:=by simpa using I
 have h3:=List.mem_of_find?_eq_some Y;subst I;exact h3
theorem tS {e:cf}(h:qz e=0):1<=e.number/\e.number<=1000/\(∃f,ye e.kind=Hc f/\e.names.length=f.1/\e.values.length=f.2)/\(∀s∈e.names,Go.W.cj s=true)/\(∀v∈e.values,0<=v/\v<=999999999)/\e.text=[]:=by
 unfold qz at h;split at h
 .cases h
 rename_i hn;split at h
 .cases h
 rename_i f hf;split at h
 .cases h
 rename_i hl;split at h
 .cases h
 rename_i G;split at h
 .cases h
 rename_i hv;split at h
 .cases h
 rename_i ht
 have G:(e.names.all Go.W.cj)=true:=by simpa using G
 have hv:(e.values.all fun n=>decide (0<=n)&&decide (n<=999999999))=true:=by simpa using hv
 refine⟨by omega,by omega,⟨f,hf,by omega,by omega⟩,fun s gC=>H3.1 G s gC,fun v wE=>?_,Classical.not_not.1 ht⟩;have:=H3.1 hv v wE;simpa using this
theorem ji8 {s:aj}(h:Go.W.cj s=true):s≠[]/\∀c∈s,48<=c.toNat:=by
 cases s with
 |nil=>cases h
 |cons a t=>
  unfold Go.W.cj at h;refine⟨by simp,fun c hc=>?_⟩
  have hl:∀c,(rM c||zF c)=true->48<=c.toNat:=fun c hc=>by
   unfold rM zF at hc;simp only[Bool.or_eq_true,Bool.and_eq_true,decide_eq_true_eq]at hc;omega
  simp only[Bool.and_eq_true,H3]at h;rcases Ic.1 hc with rfl|hc
  .exact hl c (by simp_all)
  .exact hl c (by simp_all)
theorem q4s {v:Int}(h:0<=v):Lib.itoa v≠[]/\∀c∈Lib.itoa v,48<=c.toNat:=by
 rw[Ac h];refine⟨fun e=>?_,fun c hc=>(qwy _ _ (Hb _) c hc).1⟩;have:=q2v v.toNat;rw[e]at this;simp at this
def qP (e:cf):List aj:=e.kind::(e.names++e.values.map Lib.itoa)
def zp (e:cf):aj:=Lib.join (Lib.itoa e.number::qP e) [32]
def zh (e:cf):aj:=zp e++35::lq (gw (zp e))
theorem Db {e:cf}(h:qz e=0):∀w∈Lib.itoa e.number::qP e,w≠[]/\∀c∈w,48<=c.toNat:=by
 obtain⟨Y,I,⟨f,h3,h4,h5⟩,h6,h7,h8⟩:=tS h;intro w hw;rcases Ic.1 hw with rfl|hw
 .exact q4s (by omega)
 rcases Ic.1 hw with rfl|hw
 .have:=q3v _ (PV h3);refine⟨this.1,fun c hc=>?_⟩;have:=H3.1 this.2 c hc
  have:97<=c.toNat:=by simpa using this
  omega
 rcases H8.1 hw with hw|hw
 .exact ji8 (h6 w hw)
 .obtain⟨v,hv,rfl⟩:=Jd.1 hw;exact q4s (h7 v hv).1
theorem jp0 {c:UInt8}{p:aj}:∀ {l:List aj},c∈Lib.join l p->c∈p\/∃w∈l,c∈w
 | [],h=>by rw[Lib.join_nil]at h;cases h
 |x::r,h=>by
  rw[Lib.join_cons]at h;rcases H8.1 h with h|h
  .exact .inr ⟨x,Il ..,h⟩
  .unfold Lib.joinTail at h;obtain⟨y,hy,hc⟩:=List.mem_flatten.1 h;obtain⟨w,hw,rfl⟩:=Jd.1 hy;rcases H8.1 hc with hc|hc
   .exact .inl hc
   .exact .inr ⟨w,H2 _ hw,hc⟩
theorem jh0 {e:cf}(h:qz e=0):∀c∈zp e,c=32\/48<=c.toNat:=by
 intro c hc;rcases jp0 hc with hc|⟨w,hw,hc⟩
 .exact .inl (Ik.1 hc)
 .exact .inr ((Db h w hw).2 c hc)
theorem Qh {w:aj}(h:∀c∈w,48<=c.toNat){d:UInt8}(hd:d.toNat<48):d ∉ w:=fun hm=>by have:=h d hm;omega
theorem jm0 {e:cf}(h:qz e=0):ef 32 (zp e)=Lib.itoa e.number::qP e:=
 WL 32 _ _ (Qh (Db h _ (Il ..)).2 (by decide)) fun w hw=>Qh (Db h w (H2 _ hw)).2 (by decide)
def rV (l:List aj)(n:Int):Option cf:=match l with
 | []=>Iq
 |k::r=>match ye k with
  |none=>Iq
  |some f=>if r.length=f.1+f.2/\[] ∉ r then(match nc (r.drop f.1)with
   |none=>Iq
   |some vs=>Hc ⟨n,k,r.take f.1,vs,[]⟩)else Iq
theorem q31 {e:cf}(h:qz e=0):rV (qP e) e.number=Hc e:=by
 obtain⟨Y,I,⟨f,h3,h4,h5⟩,h6,h7,h8⟩:=tS h;unfold rV qP;simp only[h3];rw[if_pos,I9 h4,qzv fun v hv=>⟨(h7 v hv).1,by have:=(h7 v hv).2;omega⟩]
 .simp only[Ix h4];rw[<-h8]
 .refine⟨by rw[En,Ja];omega,fun hm=>?_⟩;exact(Db h [] (H2 _ (H2 _ hm))).1 rfl
theorem qwj {l:List aj}{n:Int}{e:cf}(h:rV l n=Hc e):e.number=n/\qP e=l/\e.text=[]/\(∃f,ye e.kind=Hc f/\e.names.length=f.1/\e.values.length=f.2)/\∀v∈e.values,0<=v/\v<1000000000:=by
 unfold rV at h;split at h
 .cases h
 rename_i k r;split at h
 .cases h
 rename_i f hf;split at h
 .rename_i hl;split at h
  .cases h
  rename_i vs hv;cases h;have:=q0q hv;refine⟨rfl,?_,rfl,⟨f,hf,?_,?_⟩,this.2⟩
  .show k::(r.take f.1++vs.map Lib.itoa)=k::r;rw[this.1,If]
  .show(r.take f.1).length=_;rw[List.length_take];omega
  .show vs.length=_;have I:=congrArg List.length this.1;rw[Ja,List.length_drop]at I;omega
 .cases h
def xm (s:aj):Option cf:=match ef 32 s with
 | []=>Iq
 |w::r=>match lu w with
  |none=>Iq
  |some n=>match rV r n with
   |none=>Iq
   |some e=>if qz e=0 then Hc e else Iq
theorem jf0 {e:cf}(h:qz e=0):xm (zp e)=Hc e:=by
 have Y:=(tS h).1;have I:=(tS h).2.1;unfold xm;rw[jm0 h];simp only[Ac (show 0<=e.number by omega),jci (show e.number.toNat<1000000000 by omega),Int.toNat_of_nonneg (show 0<=e.number by omega),q31 h,if_pos h]
theorem jfp {s:aj}{e:cf}(h:xm s=Hc e):zp e=s/\qz e=0:=by
 unfold xm at h;split at h
 .cases h
 rename_i w r G;split at h
 .cases h
 rename_i n hn;split at h
 .cases h
 rename_i e' hw;split at h
 .rename_i hc;cases h;have Y:=qwj hw;have I:=q7w hn;refine⟨?_,hc⟩;unfold zp;rw[Y.1,Y.2.1,Ac I.1,I.2,<-G,jnr]
 .cases h
def pC (s:aj)(n:Nat):Except Int cf:=
 if s.length<8 then .error 26 else
 if s[s.length-8]?≠Hc 35\/(s.drop (s.length-7)).all kI=false then .error 26 else
 if s.drop (s.length-7)≠lq (gw (s.take (s.length-8)))then .error 28 else
 match xm (s.take (s.length-8))with
 |none=>.error 26
 |some e=>if e.number≠(n:Int)+1 then .error 11 else .ok e
theorem C9 (e:cf):(zh e).length=(zp e).length+8:=by
 have:=CI (zp e);unfold zh;rw[En,E6,q4p this.1 (by omega)]
theorem ZN {e:cf}(h:qz e=0)(n:Nat):pC (zh e) n=if e.number≠(n:Int)+1 then .error 11 else .ok e:=by
 have hl:=C9 e
 have Y:(zh e).drop ((zh e).length-7)=lq (gw (zp e)):=by
  rw[show(zh e).length-7=(zp e).length+1 by omega];unfold zh;rw[I6,Iy (by omega),show(zp e).length+1-(zp e).length=1 by omega];rfl
 have I:(zh e).take ((zh e).length-8)=zp e:=by
  rw[show(zh e).length-8=(zp e).length by omega];unfold zh;exact Ix rfl
 have h3:(zh e)[(zh e).length-8]?=Hc 35:=by
  rw[show(zh e).length-8=(zp e).length by omega];unfold zh;rw[List.getElem?_append_right (Hb _),Nat.sub_self];rfl
 unfold pC;rw[if_neg (by omega),Y,I,h3,q3t,if_neg (by simp),if_neg (fun h=>h rfl),jf0 h]
theorem q4i {s:aj}{n:Nat}{e:cf}(h:pC s n=.ok e):zh e=s/\qz e=0/\e.number=(n:Int)+1:=by
 unfold pC at h;split at h
 .cases h
 rename_i hl;split at h
 .cases h
 rename_i G;split at h
 .cases h
 rename_i hc;split at h
 .cases h
 rename_i e' hp;split at h
 .cases h
 rename_i hn;cases h;obtain⟨Y,I⟩:=jfp hp;refine⟨?_,I,Classical.not_not.1 hn⟩;have hc:=Classical.not_not.1 hc;have ov:s[s.length-8]?=Hc 35:=Classical.not_not.1 fun e=>G (.inl e);unfold zh;rw[Y,<-hc]
 have bg:s.length-8<s.length:=by omega
 have hd:s.drop (s.length-8)=35::s.drop (s.length-7):=by
  rw[List.drop_eq_getElem_cons bg,show s.length-8+1=s.length-7 by omega];rw[List.getElem?_eq_getElem bg]at ov;rw[Hc.inj ov]
 rw[<-hd,If]
theorem Y6 {s:aj}{n:Nat}{k:Int}(h:pC s n=.error k):k≠0:=by
 unfold pC at h
 repeat' split at h
 all_goals first|(cases h;decide)|cases h
def lv:List aj->Nat->List cf->List cf×Nat×Int
 | [],a,out=>(out,a,0)| [w],a,out=>(out,a,if w=[]then 0 else 29)
 |w::x::r,a,out=>match pC w out.length with
  | .error k=>(out,a,k)| .ok e=>lv (x::r) (a+w.length+1) (out++[e])
def zo (s:aj):List cf×Nat×Int:=lv (ef 10 s) 0 []
def ja:List cf->aj
 | []=>[]|e::l=>zh e++10::ja l
theorem Qg:∀ l m:List cf,ja (l++m)=ja l++ja m
 | [],m=>rfl
 |e::l,m=>by rw[Ia,ja,ja,Qg l m];simp
def iW:Nat->List cf->Prop
 |_,[]=>True|k,e::l=>qz e=0/\e.number=(k:Int)+1/\iW (k+1) l
theorem ZK:∀ {l m:List cf} {k:Nat},iW k (l++m)↔iW k l/\iW (k+l.length) m
 | [],m,k=>by simp[iW]
 |e::l,m,k=>by
  simp only[Ia,iW,ZK (l:=l),E6];rw[show k+1+l.length=k+(l.length+1) by omega];constructor
  .rintro ⟨a,b,c,d⟩;exact⟨⟨a,b,c⟩,d⟩
  .rintro ⟨⟨a,b,c⟩,d⟩;exact⟨a,b,c,d⟩
theorem Qi {e:cf}(h:qz e=0):(10:UInt8) ∉ zh e:=by
 intro hm;unfold zh at hm;rcases H8.1 hm with hm|hm
 .rcases jh0 h _ hm with Y|Y
  .cases Y
  .revert Y;decide
 .rcases Ic.1 hm with hm|hm
  .cases hm
  .have:=H3.1 (q3t _) _ hm
   revert this;decide
theorem G0 {w:aj}{t:List aj}{a:Nat}{out:List cf}(ht:t≠[]):lv (w::t) a out=match pC w out.length with
  | .error k=>(out,a,k)
  | .ok e=>lv t (a+w.length+1) (out++[e]):=by
 cases t with
 |nil=>exact absurd rfl ht|cons x r=>rfl
theorem Qj:∀ {l:List cf} {t:aj} {a:Nat} {out:List cf},iW out.length l->lv (ef 10 (ja l++t)) a out=lv (ef 10 t) (a+(ja l).length) (out++l)
 | [],t,a,out,_=>by simp[ja]
 |e::l,t,a,out,h=>by
  obtain⟨Y,I,h3⟩:=h;have hn:=Qi Y;rw[ja,I5,Ia,rQ hn,G0 (zJ _ _),ZN Y,if_neg (fun h=>h I)];dsimp only;rw[Qj (l:=l) (by rw[En,Ha];exact h3)];simp only[En,E6,I5,List.singleton_append]
  congr 1
  omega
theorem qwe {l:List cf}(h:iW 0 l):zo (ja l)=(l,(ja l).length,0):=by
 have:=Qj (l:=l) (t:=[]) (a:=0) (out:=[]) h;rw[List.append_nil]at this;unfold zo;rw[this];simp[ef,vE,lv]
theorem q63 {l:List cf}(h:iW 0 l){t:aj}(ht:(10:UInt8) ∉ t):zo (ja l++t)=(l,(ja l).length,if t=[]then 0 else 29):=by
 unfold zo;rw[Qj (l:=l) (t:=t) (a:=0) (out:=[]) h,tE ht];simp[lv]
theorem Y8 {s:aj}:∀ {a:Nat} {out:List cf},∃l,(lv (ef 10 s) a out).1=out++l/\iW out.length l/\(lv (ef 10 s) a out).2.1=a+(ja l).length/\(∃t,s=ja l++t/\((lv (ef 10 s) a out).2.2=0->t=[])):=by
 refine Ke (c:=10) (P:=fun s=>∀ {a:Nat} {out:List cf},∃l,(lv (ef 10 s) a out).1=out++l/\iW out.length l/\(lv (ef 10 s) a out).2.1=a+(ja l).length/\(∃t,s=ja l++t/\((lv (ef 10 s) a out).2.2=0->t=[]))) ?_ ?_ s.length s (Hb _)
 .intro s G a out;rw[tE G];refine⟨[],by simp[lv],trivial,by simp[lv,ja],s,rfl,?_⟩;intro h;have h:(if s=[]then(0:Int)else 29)=0:=h;split at h
  .assumption
  .cases h
 .intro x b M ih a out;rw[rQ M,G0 (zJ _ _)]
  cases hl:pC x out.length with
  |error k=>exact⟨[],by simp,trivial,by simp[ja],x++10::b,rfl,fun h=>absurd h (Y6 hl)⟩
  |ok e=>
   obtain⟨Y,I,h3⟩:=q4i hl;obtain⟨l,k1,k2,k3,t,k4,k5⟩:=ih (a:=a+x.length+1) (out:=out++[e]);rw[En,Ha]at k2;refine⟨e::l,by rw[k1];simp,⟨I,h3,k2⟩,?_,t,?_,k5⟩
   .show(lv (ef 10 b) (a+x.length+1) (out++[e])).2.1=_;rw[k3,ja,En,E6,Y];omega
   .rw[ja,Y,k4];simp
theorem q9r (s:aj):iW 0 (zo s).1/\(zo s).2.1=(ja (zo s).1).length/\((zo s).2.2=0->s=ja (zo s).1):=by
 obtain⟨l,Y,I,h3,t,h4,h5⟩:=Y8 (s:=s) (a:=0) (out:=[]);have zG:(zo s).1=l:=Y;refine⟨by rw[zG];exact I,?_,fun h=>?_⟩
 .rw[zG];have:(zo s).2.1=0+(ja l).length:=h3;omega
 .rw[zG];rw[h5 h]at h4;simpa using h4
theorem jcj:∀ {l:List cf} {k n:Nat},iW k l->n<=(ja l).length->∃m t,m<=l.length/\(ja l).take n=ja (l.take m)++t/\(10:UInt8) ∉ t/\(ja (l.take m)).length<=n/\∀j,m<j->j<=l.length->n<(ja (l.take j)).length
 | [],k,n,_,hn=>⟨0,[],Hb _,by simp[ja],by simp,by simp[ja],fun j Y I=>by simp at I;omega⟩
 |e::l,k,n,h,hn=>by
  obtain⟨Y,I,h3⟩:=h;have sX:=Qi Y
  have hlen:(ja (e::l)).length=(zh e).length+1+(ja l).length:=by
   rw[ja,En,E6];omega
  rcases Nat.lt_or_ge n ((zh e).length+1)with bg|oR
  .refine⟨0,(zh e).take n,Nat.zero_le _,?_,fun hm=>sX (List.mem_of_mem_take hm),by simp[ja],fun j hj FC=>?_⟩
   .rw[ja,Ij (by omega)];simp[ja]
   .cases j with
    |zero=>omega
    |succ j=>
     rw[H4,ja,En,E6];omega
  .obtain⟨m,t,k1,k2,k3,k4,k5⟩:=jcj (l:=l) (n:=n-((zh e).length+1)) h3 (by omega);refine⟨m+1,t,by simp;omega,?_,k3,?_,fun j hj FC=>?_⟩
   .rw[H4,ja,ja]
    have:(zh e++10::ja l).take n=zh e++10::(ja l).take (n-((zh e).length+1)):=by
     rw[show zh e++10::ja l=(zh e++[10])++ja l by simp,Ip,Ib (by simp;omega)];simp
    rw[this,k2];simp
   .rw[H4,ja,En,E6];omega
   .cases j with
    |zero=>omega
    |succ j=>
     have:=k5 j (by omega) (by simpa using FC);rw[H4,ja,En,E6];omega
theorem q9t {e:cf}(h:qz e=0){a b:aj}{c d:UInt8}(G:zh e=a++c::b)(hcd:d≠c)(n:Nat):∃k,pC (a++d::b) n=.error k/\k≠0:=by
 cases hl:pC (a++d::b) n with
 |error k=>exact⟨k,rfl,Y6 hl⟩
 |ok e'=>
  exfalso;obtain⟨Y,I,h3⟩:=q4i hl
  have hlen:(zh e').length=(zh e).length:=by rw[Y,G];simp
  rw[C9,C9]at hlen
  have iq:(zp e').length=(zp e).length:=by omega
  unfold zh at Y G;rcases Nat.lt_trichotomy a.length (zp e).length with bg|heq|oZ
  ·-- in the body
   have e1:∃b1,zp e=a++c::b1/\b=b1++35::lq (gw (zp e)):=by
    have ht:=congrArg (List.take (zp e).length) G;have hd:=congrArg (List.drop (zp e).length) G;rw[Ix rfl]at ht;rw[I9 rfl]at hd;generalize (zp e).length=N at ht hd bg
    have hN:N-a.length=(N-a.length-1)+1:=by omega
    refine⟨b.take (N-a.length-1),?_,?_⟩
    .rw[ht,Ip,Ib (by omega),hN,H4];simp
    .rw[hd,I6,Iy (by omega),hN,List.drop_succ_cons];simp
   obtain⟨b1,e2,e3⟩:=e1
   have e4:zp e'++35::lq (gw (zp e'))=(a++d::b1)++35::lq (gw (zp e)):=by
    rw[Y,e3];simp
   have dW:(zp e').length=(a++d::b1).length:=by rw[iq,e2];simp
   obtain⟨e5,e6⟩:=H9 e4 dW;have e7:=jjq (CI _).1 (CI _).1 (Ig.inj e6).2;rw[e5,e2]at e7;exact jzr hcd e7
  ·-- the mark
   have e1:=H9 G heq.symm;have e2:=H9 Y (by rw[iq,heq]);have:=(Ig.inj e1.2).1;have ov:=(Ig.inj e2.2).1;exact hcd (ov.symm.trans this)
  ·-- the sum
   have e1:∃J,a=zp e++35::J:=by
    have ht:=congrArg (List.take ((zp e).length+1)) G;rw[Ip,Ib (by omega),show(zp e).length+1-(zp e).length=1 by omega,Ij (l₁:=a) (by omega)]at ht;refine⟨a.drop ((zp e).length+1),?_⟩
    conv=>lhs;rw[<-If ((zp e).length+1) a,<-ht]
    simp
   obtain⟨J,rfl⟩:=e1
   have e2:zp e'++35::lq (gw (zp e'))=zp e++35::(J++d::b):=by rw[Y];simp
   obtain⟨e3,e4⟩:=H9 e2 iq
   have e5:zp e++35::lq (gw (zp e))=zp e++35::(J++c::b):=by rw[G];simp
   obtain⟨_,e6⟩:=H9 e5 rfl;have e7:=(Ig.inj e4).2;have e8:=(Ig.inj e6).2;rw[e3,e8]at e7;exact hcd (Ig.inj (H9 e7 rfl).2).1.symm
end Go.Z
end
