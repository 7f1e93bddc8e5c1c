/- Decimal numbers. -/
import Derived.Test.YtoaianfagfampaaGreatDoorPS
import Derived.Test.YtoaianfagfampaaGreatDoorE1
set_option linter.all false
set_option maxRecDepth 100000
noncomputable section
open List renaming length_append->Eb,length_singleton->Eg,length_cons->En,getElem?_eq_getElem->Ep,drop_eq_nil_of_le->E9,mem_cons_of_mem->G4,drop_zero->G5,all_eq_true->G7,mem_append->Hb,length_drop->Hd,drop_eq_getElem_cons->Hf,take_succ_cons->Hg,length_map->Hk,drop_of_length_le->Hp,cons_append->Hr,map_cons->Hs,mem_cons->Hu,length_pos_iff->Hz,mem_singleton->H2,mem_cons_self->H3,append_assoc->H5,length_take->Ib,length_eq_zero_iff->Ic,drop_left'->Ie,take_left'->If,length_nil->Ig,length_replicate->Ih,take_append_drop->Ii,replicate->Ik,length->L6,take_length->Ma,getElem_mem->Mh,all_cons->Ml,mem_map->Mn
open Option renaming some->Eh,getD_some->E8,none->Ha
open Nat renaming le_refl->E4,zero_add->Hy,ble_eq_true_of_le->Ij,pow_le_pow_right->Io,mod_lt->Ip,mod_eq_of_lt->L8,lt_irrefl->Mi
open UInt8 renaming ofNat->G0,toNat_inj->Hx
open Bool renaming true->G1,false->Ho,not_false->H0,not_true->H6,and_eq_true->H9,false_and->Il,true_and->Jq
open Int renaming toNat_of_nonneg->G8,lt_irrefl->Hc,tmod_eq_emod_of_nonneg->He,tdiv_eq_ediv_of_nonneg->H4,ofNat->J5,toNat_natCast->L5
namespace Go.Z
open Go Go.Abs
def lz:Int->aj->Option Int
 |n,[]=>Eh n
 |n,c::t=>if 48<=c.toNat/\c.toNat<=57 then lz (10*n+((c.toNat:Int)-48)) t else Ha
theorem Vo:∀ (n:Int) (b:aj) (c:UInt8),lz n (b++[c])=match lz n b with
  |some m=>if 48<=c.toNat/\c.toNat<=57 then Eh (10*m+((c.toNat:Int)-48))else Ha
  |none=>Ha
 |n,[],c=>rfl
 |n,x::t,c=>by
  rw[Hr,lz,lz];split
  .exact Vo _ t c
  .rfl
theorem qyi:∀ {b:aj} {n v:Int} {k:Nat},0<=n->n<10^k->lz n b=Eh v->0<=v/\v<10^(k+b.length)
 | [],n,v,k,h0,Y,h=>by cases h;exact⟨h0,by simpa using Y⟩
 |c::t,n,v,k,h0,Y,h=>by
  rw[lz]at h;split at h
  .rename_i hc;have:=qyi (k:=k+1) (by omega) (by rw[Int.pow_succ];omega) h;rw[En,show k+(t.length+1)=k+1+t.length by omega];exact this
  .cases h
def kH (b:aj):Option Int:=if b=[]\/9<b.length\/(1<b.length/\b.head?=Eh 48)then Ha else lz 0 b
theorem jec {b:aj}{v:Int}(h:kH b=Eh v):0<=v/\v<1000000000:=by
 unfold kH at h;split at h
 .cases h
 .rename_i hc;have Y:¬9<b.length:=fun e=>hc (.inr (.inl e));have:=qyi (k:=0) (by omega) (by omega) h;refine⟨this.1,Int.lt_of_lt_of_le this.2 ?_⟩;rw[Hy,show(1000000000:Int)=((10^9:Nat):Int) by decide,show((10:Int)^b.length)=((10^b.length:Nat):Int) by simp];exact Int.ofNat_le.2 (Io (by omega) (by omega))
theorem yw {x:Int}(Y:-9223372036854775808<=x)(I:x<=9223372036854775807):qf .i64 x=x:=MO Y I
theorem Vp {x:Int}(Y:0<=x)(I:x<=2000000):qf .i32 x=x:=by
 rw[xB];simp only[IntKind.wrap,IntKind.signed,IntKind.bits];simp;omega
theorem jow {i:Nat}(h:i<=9):(10:Int)^i<=1000000000:=by
 rw[show(1000000000:Int)=((10^9:Nat):Int) by decide,show((10:Int)^i)=((10^i:Nat):Int) by simp];exact Int.ofNat_le.2 (Io (by omega) (by omega))
theorem jkm {s:aj}(h:0<s.length):s.head?=Eh s[0]:=by
 cases s with
 |nil=>simp at h|cons a t=>rfl
theorem tf {u:Nat}(h:u<10):Lib.decDigits u=[G0 (48+u)]:=by rw[Lib.decDigits,dif_pos h]
theorem q3c {x:Int}(h0:0<=x)(Y:x<128):(Utf8.encode x).data.toList=[G0 x.toNat]:=by
 have hv:Utf8.valid x=G1:=by simp[Utf8.valid];omega
 have hc:x.toNat<128:=by omega
 simp only[Utf8.encode,hv,if_true,hc]
theorem zG {u:Nat}(h:¬u<10):Lib.decDigits u=Lib.decDigits (u / 10)++[G0 (48+u % 10)]:=by rw[Lib.decDigits,dif_neg h]
theorem F1:∀ (k u:Nat),u<10^(k+1)->(Lib.decDigits u).length<=k+1
 |0,u,h=>by rw[tf (by simpa using h)];simp
 |k+1,u,h=>by
  by_cases hu:u<10
  .rw[tf hu];simp
  .have:=F1 k (u / 10) (by rw[Nat.pow_succ]at h;omega);rw[zG hu,Eb,Eg];omega
theorem Vq (u:Nat):0<(Lib.decDigits u).length:=by
 by_cases hu:u<10
 .rw[tf hu];simp
 .rw[zG hu];simp
theorem B6 {d:Nat}(h:d<10):(G0 (48+d)).toNat=48+d:=by
 rw[UInt8.toNat_ofNat'];omega
theorem q5z:∀ (n u:Nat),u<=n->lz 0 (Lib.decDigits u)=Eh (u:Int)
 |n,u,h=>by
  by_cases hu:u<10
  .rw[tf hu,lz,B6 hu,if_pos (by omega),lz]
   congr 1;omega
  .cases n with
   |zero=>omega
   |succ n=>
    rw[zG hu,Vo,q5z n (u / 10) (by omega)];simp only[B6 (Ip u (by omega:0<10))];rw[if_pos (by omega)]
    congr 1;omega
theorem q5r:∀ (n u:Nat),u<=n->0<u->(Lib.decDigits u).head?≠Eh 48
 |n,u,h,h0=>by
  by_cases hu:u<10
  .rw[tf hu];intro e;have e1:G0 (48+u)=48:=Eh.inj e;have:=B6 hu;rw[e1]at this;have I:(48:UInt8).toNat=48:=rfl;omega
  .cases n with
   |zero=>omega
   |succ n=>
    have ih:=q5r n (u / 10) (by omega) (by omega);rw[zG hu];have hp:=Vq (u / 10)
    cases hd:Lib.decDigits (u / 10)with
    |nil=>rw[hd]at hp;simp at hp|cons x t=>rw[hd]at ih;exact ih
theorem jbb {u:Nat}(h:u<1000000000):kH (Lib.decDigits u)=Eh (u:Int):=by
 have Y:=F1 8 u (by omega);have I:=Vq u;unfold kH;rw[if_neg,q5z u u (E4 _)];rintro (e|e|⟨e1,e2⟩)
 .rw[e]at I;simp at I
 .omega
 .by_cases hu:u<10
  .rw[tf hu]at e1;simp at e1
  .exact q5r u u (E4 _) (by omega) e2
theorem Vr:∀ (n u:Nat),u<=n->∀c∈Lib.decDigits u,48<=c.toNat/\c.toNat<=57
 |n,u,h,c,hc=>by
  by_cases hu:u<10
  .rw[tf hu]at hc;obtain rfl:=H2.1 hc;rw[B6 hu];omega
  .cases n with
   |zero=>omega
   |succ n=>
    rw[zG hu]at hc;rcases Hb.1 hc with hc|hc
    .exact Vr n (u / 10) (by omega) c hc
    .obtain rfl:=H2.1 hc;have:=Ip u (by omega:0<10);rw[B6 this];omega
theorem q53:∀ (n:Nat) (b:aj) (v:Int),b.length<=n->b≠[]->(b.length=1\/b.head?≠Eh 48)->lz 0 b=Eh v->0<=v/\Lib.decDigits v.toNat=b
 |0,b,v,hn,hb,_,_=>absurd (Ic.1 (by omega)) hb
 |n+1,b,v,hn,hb,hh,hd=>by
  obtain⟨t,c,rfl⟩:∃t c,b=t++[c]:=⟨b.dropLast,b.getLast hb,(List.dropLast_concat_getLast hb).symm⟩;rw[Vo]at hd;by_cases ht:t=[]
  .subst ht;simp only[lz]at hd;split at hd
   .rename_i hc;cases hd;refine⟨by omega,?_⟩;rw[tf (by omega)];simp only[List.nil_append,List.cons.injEq,and_true];apply Hx.1;rw[B6 (by omega)];omega
   .cases hd
  .cases hm:lz 0 t with
   |none=>rw[hm]at hd;cases hd
   |some m=>
    rw[hm]at hd;dsimp only at hd;split at hd
    .rename_i hc;cases hd;have bh:0<t.length:=Hz.2 ht
     have E3:t.head?≠Eh 48:=by
      rcases hh with hh|hh
      .simp only[Eb,Eg]at hh;omega
      .cases t with
       |nil=>exact absurd rfl ht|cons x t=>exact hh
     have ih:=q53 n t m (by simp only[Eb,Eg]at hn;omega) ht (.inr E3) hm
     have hm0:m≠0:=by
      rintro rfl;have I:=ih.2;rw[show(0:Int).toNat=0 from rfl,tf (by omega)]at I;exact E3 (by rw[<-I];rfl)
     refine⟨by omega,?_⟩;rw[zG (by omega)]
     have e1:(10*m+((c.toNat:Int)-48)).toNat / 10=m.toNat:=by omega
     have e2:(10*m+((c.toNat:Int)-48)).toNat % 10=c.toNat-48:=by omega
     rw[e1,e2,ih.2]
     congr 2
     apply Hx.1;rw[B6 (by omega)];omega
    .cases hd
theorem q5o {b:aj}{v:Int}(h:kH b=Eh v):0<=v/\Lib.decDigits v.toNat=b:=by
 unfold kH at h;split at h
 .cases h
 .rename_i hc;have Y:b≠[]:=fun e=>hc (.inl e)
  have I:b.length=1\/b.head?≠Eh 48:=by
   by_cases e:b.length=1
   .exact .inl e
   .refine .inr fun e2=>hc (.inr (.inr ⟨?_,e2⟩));have:=Hz.2 Y;omega
  exact q53 b.length b v (E4 _) Y I h
end Go.Z
namespace Go.Z
open Go Go.Abs Go.W
def ti (x:Int)(c:UInt8):Int:=(313*x+(c.toNat:Int)) % 9999889
def kI (s:aj):Int:=s.foldl ti 1
theorem Vs:∀ (s:aj) (x:Int),0<=x->x<9999889->0<=s.foldl ti x/\s.foldl ti x<9999889
 | [],x,h0,Y=>⟨h0,Y⟩|c::s,x,h0,Y=>Vs s (ti x c) (by unfold ti;omega) (by unfold ti;omega)
theorem NT (s:aj):0<=kI s/\kI s<9999889:=Vs s 1 (by omega) (by omega)
def vg (n:Int):aj:=Ik (7-(Lib.decDigits n.toNat).length) 48++Lib.decDigits n.toNat
theorem q3f {n:Int}(h0:0<=n)(Y:n<10000000):(vg n).length=7:=by
 have:=F1 6 n.toNat (by omega);unfold vg;rw[Eb,Ih];omega
def jP (c:UInt8):Bool:=decide (48<=c.toNat)&&decide (c.toNat<=57)
theorem q2n (n:Int):(vg n).all jP=G1:=by
 rw[G7];intro c hc;unfold jP;unfold vg at hc;rcases Hb.1 hc with hc|hc
 .obtain⟨_,rfl⟩:=List.mem_replicate.1 hc;rfl
 .have:=Vr _ _ (E4 _) c hc;simp[this.1,this.2]
theorem zH {v:Int}(h:0<=v):Lib.itoa v=Lib.decDigits v.toNat:=by
 unfold Lib.itoa;rw[if_neg (by omega)]
def mN:List aj->ak Int
 | []=>Eh []
 |w::ws=>match kH w with
  |none=>Ha
  |some v=>match mN ws with
   |none=>Ha|some l=>Eh (v::l)
theorem qxw:∀ {vs:List Int},(∀v∈vs,0<=v/\v<1000000000)->mN (vs.map Lib.itoa)=Eh vs
 | [],_=>rfl
 |v::vs,h=>by
  have hv:=h v (H3 ..);rw[Hs,mN,zH hv.1,jbb (by omega),qxw fun x M=>h x (G4 _ M)];simp only[G8 hv.1]
theorem qzn:∀ {ws:List aj} {vs:List Int},mN ws=Eh vs->vs.map Lib.itoa=ws/\∀v∈vs,0<=v/\v<1000000000
 | [],vs,h=>by cases h;exact⟨rfl,by simp⟩
 |w::ws,vs,h=>by
  rw[mN]at h
  cases hw:kH w with
  |none=>rw[hw]at h;cases h
  |some v=>
   rw[hw]at h;dsimp only at h
   cases Q:mN ws with
   |none=>rw[Q]at h;cases h
   |some l=>
    rw[Q]at h;cases h;have Y:=q5o hw;have I:=qzn Q;have h3:=jec hw;refine⟨by rw[Hs,zH Y.1,Y.2,I.1],fun x M=>?_⟩;rcases Hu.1 M with rfl|M
    .exact h3
    .exact I.2 x M
theorem q24:∀ x∈cz,x.1≠[]/\(x.1.all fun c=>decide (97<=c.toNat))=G1:=by decide
theorem NU {k:aj}{f}(h:z6 k=Eh f):(k,f)∈cz:=by
 unfold z6 at h;obtain⟨x,Y,rfl⟩:=Option.map_eq_some_iff.1 h;have I:=List.find?_some Y
 have I:x.1=k:=by simpa using I
 have h3:=List.mem_of_find?_eq_some Y;subst I;exact h3
theorem tj {e:cf}(h:jb e=0):1<=e.number/\e.number<=1000/\(∃f,z6 e.kind=Eh f/\e.names.length=f.1/\e.values.length=f.2)/\(∀s∈e.names,Go.W.b6 s=G1)/\(∀v∈e.values,0<=v/\v<=999999999)/\e.text=[]:=by
 unfold jb at h;split at h
 .cases h
 rename_i hn;split at h
 .cases h
 rename_i f hf;split at h
 .cases h
 rename_i hl;split at h
 .cases h
 rename_i G;split at h
 .cases h
 rename_i hv;split at h
 .cases h
 rename_i ht
 have G:(e.names.all Go.W.b6)=G1:=by simpa using G
 have hv:(e.values.all fun n=>decide (0<=n)&&decide (n<=999999999))=G1:=by simpa using hv
 refine⟨by omega,by omega,⟨f,hf,by omega,by omega⟩,fun s gy=>G7.1 G s gy,fun v vO=>?_,Classical.not_not.1 ht⟩;have:=G7.1 hv v vO;simpa using this
theorem jfp {s:aj}(h:Go.W.b6 s=G1):s≠[]/\∀c∈s,48<=c.toNat:=by
 cases s with
 |nil=>cases h
 |cons a t=>
  unfold Go.W.b6 at h;refine⟨by simp,fun c hc=>?_⟩
  have hl:∀c,(qV c||yO c)=G1->48<=c.toNat:=fun c hc=>by
   unfold qV yO at hc;simp only[Bool.or_eq_true,H9,decide_eq_true_eq]at hc;omega
  simp only[H9,G7]at h;rcases Hu.1 hc with rfl|hc
  .exact hl c (by simp_all)
  .exact hl c (by simp_all)
theorem q2s {v:Int}(h:0<=v):Lib.itoa v≠[]/\∀c∈Lib.itoa v,48<=c.toNat:=by
 rw[zH h];refine⟨fun e=>?_,fun c hc=>(Vr _ _ (E4 _) c hc).1⟩;have:=Vq v.toNat;rw[e]at this;simp at this
def pg (e:cf):List aj:=e.kind::(e.names++e.values.map Lib.itoa)
def kj (e:cf):aj:=Lib.join (Lib.itoa e.number::pg e) [32]
def yo (e:cf):aj:=kj e++35::vg (kI (kj e))
theorem B7 {e:cf}(h:jb e=0):∀w∈Lib.itoa e.number::pg e,w≠[]/\∀c∈w,48<=c.toNat:=by
 obtain⟨Y,I,⟨f,h3,h4,h5⟩,h6,h7,h8⟩:=tj h;intro w hw;rcases Hu.1 hw with rfl|hw
 .exact q2s (by omega)
 rcases Hu.1 hw with rfl|hw
 .have:=q24 _ (NU h3);refine⟨this.1,fun c hc=>?_⟩;have:=G7.1 this.2 c hc
  have:97<=c.toNat:=by simpa using this
  omega
 rcases Hb.1 hw with hw|hw
 .exact jfp (h6 w hw)
 .obtain⟨v,hv,rfl⟩:=Mn.1 hw;exact q2s (h7 v hv).1
theorem jjw {c:UInt8}{p:aj}:∀ {l:List aj},c∈Lib.join l p->c∈p\/∃w∈l,c∈w
 | [],h=>by rw[Lib.join_nil]at h;cases h
 |x::r,h=>by
  rw[Lib.join_cons]at h;rcases Hb.1 h with h|h
  .exact .inr ⟨x,H3 ..,h⟩
  .unfold Lib.joinTail at h;obtain⟨y,hy,hc⟩:=List.mem_flatten.1 h;obtain⟨w,hw,rfl⟩:=Mn.1 hy;rcases Hb.1 hc with hc|hc
   .exact .inl hc
   .exact .inr ⟨w,G4 _ hw,hc⟩
theorem jgq {e:cf}(h:jb e=0):∀c∈kj e,c=32\/48<=c.toNat:=by
 intro c hc;rcases jjw hc with hc|⟨w,hw,hc⟩
 .exact .inl (H2.1 hc)
 .exact .inr ((B7 h w hw).2 c hc)
theorem NV {w:aj}(h:∀c∈w,48<=c.toNat){d:UInt8}(hd:d.toNat<48):d ∉ w:=fun hm=>by have:=h d hm;omega
theorem jji {e:cf}(h:jb e=0):eR 32 (kj e)=Lib.itoa e.number::pg e:=
 UW 32 _ _ (NV (B7 h _ (H3 ..)).2 (by decide)) fun w hw=>NV (B7 h w (G4 _ hw)).2 (by decide)
def rz (l:List aj)(n:Int):Option cf:=match l with
 | []=>Ha
 |k::r=>match z6 k with
  |none=>Ha
  |some f=>if r.length=f.1+f.2/\[] ∉ r then(match mN (r.drop f.1)with
   |none=>Ha
   |some vs=>Eh ⟨n,k,r.take f.1,vs,[]⟩)else Ha
theorem q2t {e:cf}(h:jb e=0):rz (pg e) e.number=Eh e:=by
 obtain⟨Y,I,⟨f,h3,h4,h5⟩,h6,h7,h8⟩:=tj h;unfold rz pg;simp only[h3];rw[if_pos,Ie h4,qxw fun v hv=>⟨(h7 v hv).1,by have:=(h7 v hv).2;omega⟩]
 .simp only[If h4];rw[<-h8]
 .refine⟨by rw[Eb,Hk];omega,fun hm=>?_⟩;exact(B7 h [] (G4 _ (G4 _ hm))).1 rfl
theorem qvm {l:List aj}{n:Int}{e:cf}(h:rz l n=Eh e):e.number=n/\pg e=l/\e.text=[]/\(∃f,z6 e.kind=Eh f/\e.names.length=f.1/\e.values.length=f.2)/\∀v∈e.values,0<=v/\v<1000000000:=by
 unfold rz at h;split at h
 .cases h
 rename_i k r;split at h
 .cases h
 rename_i f hf;split at h
 .rename_i hl;split at h
  .cases h
  rename_i vs hv;cases h;have:=qzn hv;refine⟨rfl,?_,rfl,⟨f,hf,?_,?_⟩,this.2⟩
  .show k::(r.take f.1++vs.map Lib.itoa)=k::r;rw[this.1,Ii]
  .show(r.take f.1).length=_;rw[Ib];omega
  .show vs.length=_;have I:=congrArg L6 this.1;rw[Hk,Hd]at I;omega
 .cases h
def wV (s:aj):Option cf:=match eR 32 s with
 | []=>Ha
 |w::r=>match kH w with
  |none=>Ha
  |some n=>match rz r n with
   |none=>Ha
   |some e=>if jb e=0 then Eh e else Ha
theorem jc4 {e:cf}(h:jb e=0):wV (kj e)=Eh e:=by
 have Y:=(tj h).1;have I:=(tj h).2.1;unfold wV;rw[jji h];simp only[zH (show 0<=e.number by omega),jbb (show e.number.toNat<1000000000 by omega),G8 (show 0<=e.number by omega),q2t h,if_pos h]
theorem jcb {s:aj}{e:cf}(h:wV s=Eh e):kj e=s/\jb e=0:=by
 unfold wV at h;split at h
 .cases h
 rename_i w r G;split at h
 .cases h
 rename_i n hn;split at h
 .cases h
 rename_i e' hw;split at h
 .rename_i hc;cases h;have Y:=qvm hw;have I:=q5o hn;refine⟨?_,hc⟩;unfold kj;rw[Y.1,Y.2.1,zH I.1,I.2,<-G,jjy]
 .cases h
def rA (s:aj)(n:Nat):Except Int cf:=
 if s.length<8 then .error 26 else
 if s[s.length-8]?≠Eh 35\/(s.drop (s.length-7)).all jP=Ho then .error 26 else
 if s.drop (s.length-7)≠vg (kI (s.take (s.length-8)))then .error 28 else
 match wV (s.take (s.length-8))with
 |none=>.error 26
 |some e=>if e.number≠(n:Int)+1 then .error 11 else .ok e
theorem JM (e:cf):(yo e).length=(kj e).length+8:=by
 have:=NT (kj e);unfold yo;rw[Eb,En,q3f this.1 (by omega)]
theorem jj8 {e:cf}(h:jb e=0)(n:Nat):rA (yo e) n=if e.number≠(n:Int)+1 then .error 11 else .ok e:=by
 have hl:=JM e
 have Y:(yo e).drop ((yo e).length-7)=vg (kI (kj e)):=by
  rw[show(yo e).length-7=(kj e).length+1 by omega];unfold yo;rw[List.drop_append,Hp (by omega),show(kj e).length+1-(kj e).length=1 by omega];rfl
 have I:(yo e).take ((yo e).length-8)=kj e:=by
  rw[show(yo e).length-8=(kj e).length by omega];unfold yo;exact If rfl
 have h3:(yo e)[(yo e).length-8]?=Eh 35:=by
  rw[show(yo e).length-8=(kj e).length by omega];unfold yo;rw[List.getElem?_append_right (E4 _),Nat.sub_self];rfl
 unfold rA;rw[if_neg (by omega),Y,I,h3,q2n,if_neg (by simp),if_neg (fun h=>h rfl),jc4 h]
theorem jhl {s:aj}{n:Nat}{e:cf}(h:rA s n=.ok e):yo e=s/\jb e=0/\e.number=(n:Int)+1:=by
 unfold rA at h;split at h
 .cases h
 rename_i hl;split at h
 .cases h
 rename_i G;split at h
 .cases h
 rename_i hc;split at h
 .cases h
 rename_i e' hp;split at h
 .cases h
 rename_i hn;cases h;obtain⟨Y,I⟩:=jcb hp;refine⟨?_,I,Classical.not_not.1 hn⟩;have hc:=Classical.not_not.1 hc;have pT:s[s.length-8]?=Eh 35:=Classical.not_not.1 fun e=>G (.inl e);unfold yo;rw[Y,<-hc]
 have bh:s.length-8<s.length:=by omega
 have hd:s.drop (s.length-8)=35::s.drop (s.length-7):=by
  rw[Hf bh,show s.length-8+1=s.length-7 by omega];rw[Ep bh]at pT;rw[Eh.inj pT]
 rw[<-hd,Ii]
theorem q7p {s:aj}{n:Nat}{k:Int}(h:rA s n=.error k):k≠0:=by
 unfold rA at h
 repeat' split at h
 all_goals first|(cases h;decide)|cases h
def mO:List aj->Nat->List cf->List cf×Nat×Int
 | [],a,out=>(out,a,0)| [w],a,out=>(out,a,if w=[]then 0 else 29)
 |w::x::r,a,out=>match rA w out.length with
  | .error k=>(out,a,k)| .ok e=>mO (x::r) (a+w.length+1) (out++[e])
def mP (s:aj):List cf×Nat×Int:=mO (eR 10 s) 0 []
def zj:List cf->aj
 | []=>[]|e::l=>yo e++10::zj l
theorem qvy:∀ l m:List cf,zj (l++m)=zj l++zj m
 | [],m=>rfl
 |e::l,m=>by rw[Hr,zj,zj,qvy l m];simp
def kJ:Nat->List cf->Prop
 |_,[]=>True|k,e::l=>jb e=0/\e.number=(k:Int)+1/\kJ (k+1) l
theorem Vt:∀ {l m:List cf} {k:Nat},kJ k (l++m)↔kJ k l/\kJ (k+l.length) m
 | [],m,k=>by simp[kJ]
 |e::l,m,k=>by
  simp only[Hr,kJ,Vt (l:=l),En];rw[show k+1+l.length=k+(l.length+1) by omega];constructor
  .rintro ⟨a,b,c,d⟩;exact⟨⟨a,b,c⟩,d⟩
  .rintro ⟨⟨a,b,c⟩,d⟩;exact⟨a,b,c,d⟩
theorem jex {e:cf}(h:jb e=0):(10:UInt8) ∉ yo e:=by
 intro hm;unfold yo at hm;rcases Hb.1 hm with hm|hm
 .rcases jgq h _ hm with Y|Y
  .cases Y
  .revert Y;decide
 .rcases Hu.1 hm with hm|hm
  .cases hm
  .have:=G7.1 (q2n _) _ hm
   revert this;decide
theorem Vu {w:aj}{t:List aj}{a:Nat}{out:List cf}(ht:t≠[]):mO (w::t) a out=match rA w out.length with
  | .error k=>(out,a,k)
  | .ok e=>mO t (a+w.length+1) (out++[e]):=by
 cases t with
 |nil=>exact absurd rfl ht|cons x r=>rfl
theorem q5v:∀ {l:List cf} {t:aj} {a:Nat} {out:List cf},kJ out.length l->mO (eR 10 (zj l++t)) a out=mO (eR 10 t) (a+(zj l).length) (out++l)
 | [],t,a,out,_=>by simp[zj]
 |e::l,t,a,out,h=>by
  obtain⟨Y,I,h3⟩:=h;have hn:=jex Y;rw[zj,H5,Hr,wM hn,Vu (JC _ _),jj8 Y,if_neg (fun h=>h I)];dsimp only;rw[q5v (l:=l) (by rw[Eb,Eg];exact h3)];simp only[Eb,En,H5,List.singleton_append]
  congr 1
  omega
theorem q64 {l:List cf}(h:kJ 0 l){t:aj}(ht:(10:UInt8) ∉ t):mP (zj l++t)=(l,(zj l).length,if t=[]then 0 else 29):=by
 unfold mP;rw[q5v (l:=l) (t:=t) (a:=0) (out:=[]) h,sZ ht];simp[mO]
theorem qx7 {s:aj}:∀ {a:Nat} {out:List cf},∃l,(mO (eR 10 s) a out).1=out++l/\kJ out.length l/\(mO (eR 10 s) a out).2.1=a+(zj l).length/\(∃t,s=zj l++t/\((mO (eR 10 s) a out).2.2=0->t=[])):=by
 refine JB (c:=10) (P:=fun s=>∀ {a:Nat} {out:List cf},∃l,(mO (eR 10 s) a out).1=out++l/\kJ out.length l/\(mO (eR 10 s) a out).2.1=a+(zj l).length/\(∃t,s=zj l++t/\((mO (eR 10 s) a out).2.2=0->t=[]))) ?_ ?_ s.length s (E4 _)
 .intro s G a out;rw[sZ G];refine⟨[],by simp[mO],trivial,by simp[mO,zj],s,rfl,?_⟩;intro h;have h:(if s=[]then(0:Int)else 29)=0:=h;split at h
  .assumption
  .cases h
 .intro x b M ih a out;rw[wM M,Vu (JC _ _)]
  cases hl:rA x out.length with
  |error k=>exact⟨[],by simp,trivial,by simp[zj],x++10::b,rfl,fun h=>absurd h (q7p hl)⟩
  |ok e=>
   obtain⟨Y,I,h3⟩:=jhl hl;obtain⟨l,k1,k2,k3,t,k4,k5⟩:=ih (a:=a+x.length+1) (out:=out++[e]);rw[Eb,Eg]at k2;refine⟨e::l,by rw[k1];simp,⟨I,h3,k2⟩,?_,t,?_,k5⟩
   .show(mO (eR 10 b) (a+x.length+1) (out++[e])).2.1=_;rw[k3,zj,Eb,En,Y];omega
   .rw[zj,Y,k4];simp
theorem q7h (s:aj):kJ 0 (mP s).1/\(mP s).2.1=(zj (mP s).1).length/\((mP s).2.2=0->s=zj (mP s).1):=by
 obtain⟨l,Y,I,h3,t,h4,h5⟩:=qx7 (s:=s) (a:=0) (out:=[]);have yP:(mP s).1=l:=Y;refine⟨by rw[yP];exact I,?_,fun h=>?_⟩
 .rw[yP];have:(mP s).2.1=0+(zj l).length:=h3;omega
 .rw[yP];rw[h5 h]at h4;simpa using h4
theorem jao:∀ {l:List cf} {k n:Nat},kJ k l->n<=(zj l).length->∃m t,m<=l.length/\(zj l).take n=zj (l.take m)++t/\(10:UInt8) ∉ t/\(zj (l.take m)).length<=n/\∀j,m<j->j<=l.length->n<(zj (l.take j)).length
 | [],k,n,_,hn=>⟨0,[],E4 _,by simp[zj],by simp,by simp[zj],fun j Y I=>by simp at I;omega⟩
 |e::l,k,n,h,hn=>by
  obtain⟨Y,I,h3⟩:=h;have AV:=jex Y
  have hlen:(zj (e::l)).length=(yo e).length+1+(zj l).length:=by
   rw[zj,Eb,En];omega
  rcases Nat.lt_or_ge n ((yo e).length+1)with bh|oJ
  .refine⟨0,(yo e).take n,Nat.zero_le _,?_,fun hm=>AV (List.mem_of_mem_take hm),by simp[zj],fun j hj ER=>?_⟩
   .rw[zj,List.take_append_of_le_length (by omega)];simp[zj]
   .cases j with
    |zero=>omega
    |succ j=>
     rw[Hg,zj,Eb,En];omega
  .obtain⟨m,t,k1,k2,k3,k4,k5⟩:=jao (l:=l) (n:=n-((yo e).length+1)) h3 (by omega);refine⟨m+1,t,by simp;omega,?_,k3,?_,fun j hj ER=>?_⟩
   .rw[Hg,zj,zj]
    have:(yo e++10::zj l).take n=yo e++10::(zj l).take (n-((yo e).length+1)):=by
     rw[show yo e++10::zj l=(yo e++[10])++zj l by simp,List.take_append,List.take_of_length_le (by simp;omega)];simp
    rw[this,k2];simp
   .rw[Hg,zj,Eb,En];omega
   .cases j with
    |zero=>omega
    |succ j=>
     have:=k5 j (by omega) (by simpa using ER);rw[Hg,zj,Eb,En];omega
end Go.Z
namespace Go.Z
open Go Go.Abs Go.W
theorem jam:∀ (n:Nat) (u:Nat) (s:aj),u<=n->s.length+u<=2000000000->u<1000000000->bu yU ((u:Int),s)=Eh (0,(if u=0 then []else Lib.decDigits u)++s)
 |n,u,s,h,G,hu=>by
  by_cases h0:u=0
  .subst h0;refine zf ?_;unfold yU;rfl
  .cases n with
   |zero=>omega
   |succ n=>
    have ih:=jam n (u / 10) ([G0 (48+u % 10)]++s) (by omega) (by simp only[Eb,Eg];omega) (by omega)
    have Y:0<(u:Int):=by omega
    have hm:=Ip u (by omega:0<10)
    have Q:ol (u:Int) 10=Eh ((u % 10:Nat):Int):=by
     unfold ol;rw[if_neg (by omega),He (by omega)];rfl
    have hq:yR .i64 (u:Int) 10=Eh ((u / 10:Nat):Int):=by
     unfold yR;rw[if_neg (by omega),H4 (by omega),yw (by omega) (by omega)];rfl
    have he:(Utf8.encode (qf .i32 (qf .i64 (48+((u % 10:Nat):Int))))).data.toList=[G0 (48+u % 10)]:=by
     rw[yw (by omega) (by omega),Vp (by omega) (by omega),q3c (by omega) (by omega)]
     congr 2
    have hc:kF [G0 (48+u % 10)] s=Eh ([G0 (48+u % 10)]++s):=by
     unfold kF;rw[if_pos (by simp only[Eg];omega)]
    rw[kc (s':=(((u / 10:Nat):Int),[G0 (48+u % 10)]++s)),ih]
    .rw[if_neg h0];by_cases hu:u<10
     .rw[if_pos (by omega),tf hu,L8 hu];rfl
     .rw[if_neg (by omega),zG hu];simp
    .unfold yU;simp only[Y,decide_true,cond_true,Q,qk,he,hc,hq]
theorem jsi {u:Nat}(hu:u<1000000000):f97 (u:Int)=Eh (Lib.decDigits u):=by
 have Y:¬(u:Int)<0:=by omega
 have hm:=Ip u (by omega:0<10)
 have Q:ol (u:Int) 10=Eh ((u % 10:Nat):Int):=by
  unfold ol;rw[if_neg (by omega),He (by omega)];rfl
 have hq:yR .i64 (u:Int) 10=Eh ((u / 10:Nat):Int):=by
  unfold yR;rw[if_neg (by omega),H4 (by omega),yw (by omega) (by omega)];rfl
 have he:(Utf8.encode (qf .i32 (qf .i64 (48+((u % 10:Nat):Int))))).data.toList=[G0 (48+u % 10)]:=by
  rw[yw (by omega) (by omega),Vp (by omega) (by omega),q3c (by omega) (by omega)]
  congr 2
 have hl:=jam (u / 10) (u / 10) [G0 (48+u % 10)] (E4 _) (by simp only[Eg];omega) (by omega);unfold f97;simp only[Y,decide_false,cond_false,Q,qk,hq,he];rw[show bu yU (((u / 10:Nat):Int),[G0 (48+u % 10)])=_ from hl,qk]
 congr 1
 by_cases hu:u<10
 .rw[if_pos (by omega),tf hu,L8 hu];rfl
 .rw[if_neg (by omega),zG hu]
theorem juh {u:Nat}(hu:u<1000000000):f28 (u:Int)=Eh (Lib.decDigits u):=by
 unfold f28;rw[jsi hu];rfl
theorem jl1 {x:Int}{c:UInt8}(h0:0<=x)(Y:x<9999889):ol (qf .i64 ((qf .i64 (313*x))+(qf .i64 (c.toNat:Int)))) 9999889=Eh (ti x c):=by
 have hc:c.toNat<256:=c.toNat_lt;rw[yw (x:=313*x) (by omega) (by omega),yw (x:=(c.toNat:Int)) (by omega) (by omega),yw (by omega) (by omega)];unfold ol;rw[if_neg (by omega),He (by omega)];rfl
theorem je0 {s:aj}{i:Nat}(h:i<s.length):qo s (i:Int)=Eh s[i]:=ja (Ep h)
theorem JN {u:Nat}(hu:u<1000000000000000000):f26 (u:Int)=Eh (Lib.decDigits u):=by
 show f26 (J5 u)=_;simp only[f26,Nat.blt_eq.mpr hu,cond_true];rw[UY 18 u [] (by omega) (by omega),List.append_nil]
theorem jax (c:UInt8):∀k,Lib.repeatL [c] k=Ik k c
 |0=>rfl
 |k+1=>by
  rw[Lib.repeatL,jax c k,List.replicate_succ];rfl
theorem jaw (s:aj)(G:s.length<=1073741824):∀(k i:Nat) (x:Int),i+k=s.length->0<=x->x<9999889->bu (yW s) (x,(i:Int))=Eh ((s.drop i).foldl ti x,(s.length:Int))
 |0,i,x,hi,h0,Y=>by
  obtain rfl:i=s.length:=by omega
  rw[E9 (E4 _)];refine zf ?_;unfold yW;simp only[Hc,decide_false,cond_false,List.foldl_nil]
 |k+1,i,x,hi,h0,Y=>by
  have bh:i<s.length:=by omega
  have hb:0<=ti x s[i]/\ti x s[i] < 9999889:=Vs [s[i]] x h0 Y;rw[kc (s':=(ti x s[i],((i+1:Nat):Int))),jaw s G k (i+1) _ (by omega) hb.1 hb.2,Hf bh,List.foldl_cons];unfold yW
  have I:((i:Int)<(s.length:Int)):=by omega
  simp only[I,decide_true,cond_true,je0 bh,qk,jl1 h0 Y];rw[yw (by omega) (by omega)];rfl
theorem ja3 {s:aj}(G:s.length<=1073741824):f102 s=Eh (vg (kI s)):=by
 have hb:=NT s;unfold f102;rw[show bu (yW s) (1,0)=_ from jaw s G s.length 0 1 (by omega) (by omega) (by omega),qk];have hu:((kI s).toNat:Int)=kI s:=G8 hb.1
 have hd:f26 (kI s)=Eh (Lib.decDigits (kI s).toNat):=by rw[<-hu];exact JN (by omega)
 have hl:=F1 6 (kI s).toNat (by omega);show qc (f26 (kI s)) _=_;rw[hd,qk,yw (by omega) (by omega),show(7:Int)-((Lib.decDigits (kI s).toNat).length:Int)=J5 (7-(Lib.decDigits (kI s).toNat).length) by simp only[Int.ofNat_eq_natCast];omega]
 have Q:f175 ([48]:aj) (J5 (7-(Lib.decDigits (kI s).toNat).length))=Eh (Ik (7-(Lib.decDigits (kI s).toNat).length) 48):=by
  simp only[f175];rw[show(Nat.ble (7-(Lib.decDigits (kI s).toNat).length) 100000&&Nat.ble (([48]:aj).length*(7-(Lib.decDigits (kI s).toNat).length)) 100000)=G1 by simp only[H9,Nat.ble_eq,Eg];omega,cond_true,jax]
 rw[Q,qk];unfold kF;rw[if_pos (by simp only[Ih];omega)];rfl
end Go.Z
namespace Go.Z
open Go Go.Abs Go.W
theorem zI {α:Type}{s:List α}{i:Nat}(hi:i<s.length):s.drop i=s[i]::s.drop (i+1):=(Hf hi)
theorem q9y {s:aj}(G:s.length<=9):∀(k i:Nat) (n:Int),i+k=s.length->0<=n->n<10^i ->
  ∃j,bu (wR s) (n,i)=Eh (match lz n (s.drop i)with|none=>.inl j|some v=>.inr (v,s.length))
 |0,i,n,hi,h0,Y=>by
  have hi:i=s.length:=by omega
  subst hi;rw[Hp (E4 _),lz];exact⟨0,zf (by unfold wR;simp only[Mi,decide_false,cond_false])⟩
 |k+1,i,n,hi,h0,Y=>by
  have bh:i<s.length:=by omega
  have hg:s[i]?=Eh s[i]:=Ep bh;have hp:=jow (show i<=9 by omega)
  have h9:¬9<(s.length:Int):=by omega
  rw[zI bh,lz];by_cases hd:48<=s[i].toNat/\s[i].toNat<=57
  .have e:=M0 hg (by omega);obtain⟨j,hj⟩:=q9y G k (i+1) (10*n+((s[i].toNat:Int)-48)) (by omega) (by omega) (by rw[Int.pow_succ];omega);refine⟨j,?_⟩;rw[if_pos hd,<-hj];refine kc ?_
   have J:¬(s[i].toNat:Int)<48:=by omega
   have a2:¬57<(s[i].toNat:Int):=by omega
   unfold wR;simp only[bh,decide_true,cond_true,e,J,a2,decide_false,cond_false];rw[Vp (by omega) (by omega),yw (x:=10*n) (by omega) (by omega),yw (x:=(s[i].toNat:Int)-48) (by omega) (by omega),yw (by omega) (by omega)]
  .rw[if_neg hd];refine⟨i+(ql s i).2,zf ?_⟩;unfold wR;simp only[bh,decide_true,cond_true,decide_false,cond_false];by_cases hl:s[i].toNat<128
   .rw[M0 hg hl];by_cases J:(s[i].toNat:Int)<48
    .simp only[J,decide_true,cond_true]
    .have a2:57<(s[i].toNat:Int):=by omega
     simp only[J,a2,decide_true,cond_true,decide_false,cond_false]
   .have:=TP hg hl
    have J:¬((ql s i).1:Int)<48:=by omega
    have a2:57<((ql s i).1:Int):=by omega
    simp only[J,a2,decide_true,cond_true,decide_false,cond_false]
theorem Vv (s:aj):f89 s=Eh (match kH s with|none=>(0,Ho)|some v=>(v,G1)):=by
 unfold f89 kH;by_cases Y:s=[]
 .subst Y;rfl
 have hl:0<s.length:=Hz.2 Y;by_cases I:9<s.length
 .have jG:(9:Int)<(s.length:Int):=by omega
  simp only[Y,jG,decide_false,decide_true,cond_false,cond_true,I,true_or,or_true,if_true]
 have jG:¬(9:Int)<(s.length:Int):=by omega
 obtain⟨j,oo⟩:=q9y (s:=s) (by omega) s.length 0 0 (by omega) (by omega) (by simp)
 have NW:qo s 0=Eh s[0]:=by rw[show(0:Int)=((0:Nat):Int)from rfl,Fl,Ep hl]
 rw[jkm hl];rw[G5]at oo;by_cases h3:1<s.length
 .have NY:(1:Int)<(s.length:Int):=by omega
  by_cases h4:s[0]=48
  .have Vw:(s[0].toNat:Int)=48:=by rw[h4];rfl
   simp only[Y,jG,NY,decide_false,decide_true,cond_false,cond_true,I,h3,h4,NW,qk,Vw,true_and,or_true,if_true];rfl
  .have Vw:¬(s[0].toNat:Int)=48:=fun e=>h4 (Hx.1 (by have:(48:UInt8).toNat=48:=rfl;omega));simp only[Y,jG,NY,decide_false,decide_true,cond_false,cond_true,I,h3,h4,NW,qk,Vw,true_and,or_false,if_false,oo,Eh.injEq];cases lz 0 s<;>rfl
 .have NY:¬(1:Int)<(s.length:Int):=by omega
  simp only[Y,jG,NY,decide_false,decide_true,cond_false,cond_true,I,h3,false_and,or_false,if_false];rw[show JI s=wR s from rfl,oo,qk];cases lz 0 s<;>rfl
theorem jfl {c:UInt8}:jP c=G1↔48<=c.toNat/\c.toNat<=57:=by simp[jP]
theorem jlj (x:Int):f178 x=Eh (!(decide (48<=x)&&decide (x<=57))):=by
 unfold f178;by_cases Y:x<48
 .simp only[Y,decide_true,cond_true,decide_eq_false (show ¬48<=x by omega),Il,H0]
 .simp only[Y,decide_false,cond_false,decide_eq_true (show 48<=x by omega),Jq];by_cases I:57<x
  .simp only[I,decide_true,decide_eq_false (show ¬x<=57 by omega),H0]
  .simp only[I,decide_false,decide_eq_true (show x<=57 by omega),H6]
end Go.Z
namespace Go.Z
open Go Go.Abs Go.W
theorem jal {s:aj}{i:Nat}(h:i<s.length):f178 ((ql s i).1:Int)=Eh (!(jP s[i]))/\(jP s[i]=G1->(ql s i).2=1):=by
 have hg:s[i]?=Eh s[i]:=Ep h;rw[jlj];by_cases hl:s[i].toNat<128
 .rw[M0 hg hl];refine⟨?_,fun _=>rfl⟩
  congr 2
  unfold jP
  congr 1
  .exact decide_eq_decide.2 (by omega)
  .exact decide_eq_decide.2 (by omega)
 .have oJ:=TP hg hl
  have hn:jP s[i]=Ho:=by
   cases hd:jP s[i]with
   |false=>rfl|true=>have:=jfl.1 hd;omega
  rw[hn,decide_eq_false (show ¬((ql s i).1:Int)<=57 by omega),Bool.and_false];exact⟨rfl,fun e=>by cases e⟩
theorem ja4 (s:aj):∀(k i:Nat) (p:Int),i+k=s.length->∃j m:Nat,bu (JJ s G1) (Eh (G1,p,i))=Eh (if(s.drop i).all jP=G1 then .inr (G1,s.length)else .inl ((j:Int),m))
 |0,i,p,hi=>by
  have hi:i=s.length:=by omega
  subst hi;rw[Hp (E4 _)];refine⟨0,0,zf ?_⟩;show wS s G1 (G1,p,s.length)=_;unfold wS;simp only[Mi,decide_false,cond_false];rfl
 |k+1,i,p,hi=>by
  have bh:i<s.length:=by omega
  have hd:=jal bh;rw[zI bh,Ml];cases hb:jP s[i]with
  |true=>
   obtain⟨j,m,hj⟩:=ja4 s k (i+1) (i:Int) (by omega);refine⟨j,m,?_⟩;rw[Jq,<-hj];refine kc ?_;show wS s G1 (G1,p,i)=_;unfold wS;simp only[bh,decide_true,cond_true,hd.1,hd.2 hb,hb,qk,H6,cond_false]
  |false=>
   refine⟨i,i+(ql s i).2,?_⟩;rw[Il,if_neg (by simp)];refine zf ?_;show wS s G1 (G1,p,i)=_;unfold wS;simp only[bh,decide_true,cond_true,hd.1,hb,qk,H0]
theorem jpi (s:aj):f177 s=Eh (!(s.all jP)):=by
 have key:∃j m:Nat,bu (JJ s G1) Ha=Eh (if s.all jP=G1 then .inr (G1,s.length)else .inl ((j:Int),m)):=by
  cases G:s.length with
  |zero=>
   obtain rfl:=Ic.1 G;exact⟨0,0,zf rfl⟩
  |succ n=>
   have bh:0<s.length:=by omega
   have hd:=jal bh
   have he:s.all jP=(jP s[0]&&(s.drop 1).all jP):=by
    have:=congrArg (fun l=>List.all l jP) (zI bh);simpa only[G5,Ml]using this
   rw[he];cases hb:jP s[0]with
   |true=>
    obtain⟨j,m,hj⟩:=ja4 s n 1 (0:Int) (by omega);refine⟨j,m,?_⟩;rw[Jq,<-G,<-hj];refine kc ?_;show BR s G1=_;unfold BR;simp only[bh,decide_true,cond_true,hd.1,hd.2 hb,hb,qk,H6,cond_false]<;>rfl
   |false=>
    refine⟨0,0+(ql s 0).2,?_⟩;rw[Il,if_neg (by simp)];refine zf ?_;show BR s G1=_;unfold BR;simp only[bh,decide_true,cond_true,hd.1,hb,qk,H0];rfl
 obtain⟨j,m,hk⟩:=key;unfold f177 f230 f250;rw[hk,qk]
 cases s.all jP with
 |true=>rfl
 |false=>
  show Eh (decide ((0:Int)<=(j:Int)))=_;rw[decide_eq_true (by omega)];rfl
end Go.Z
namespace Go.Z
open Go Go.Abs Go.W
theorem Vx {s:aj}{j:Nat}(I:j<=s.length):jN s Ha (Eh (j:Int))=Eh (s.take j):=by
 simp only[jN,mL];rw[if_pos ⟨by omega,by omega⟩];simp only[L5,G5]
theorem F2 {s:aj}{i:Nat}(I:i<=s.length):jN s (Eh (i:Int)) Ha=Eh (s.drop i):=by
 simp only[jN,mL];rw[if_pos ⟨by omega,by omega⟩];simp only[L5,Ma]
theorem jn8 (s:aj)(c:UInt8):f235 s (c.toNat:Int)=Eh (Lib.indexByte s c):=by
 show f235 s (J5 c.toNat)=_;simp only[f235,q3i];rw[show G0 c.toNat=c from UInt8.ofNat_toNat]
theorem ja0 {s:aj}(c:UInt8):f198 s [c]=Eh (Lib.indexByte s c):=by
 unfold f198
 have h0:¬((([c]:aj).length:Int)=0):=by simp
 have Y:((([c]:aj).length:Int)=1):=by simp
 have NW:qo [c] 0=Eh c:=rfl;by_cases G:[c]=s
 .subst G
  have:Lib.indexByte [c] c=0:=by
   have:=UX (c:=c) (a:=[]) (b:=[]) (by simp);simpa using this
  simp only[h0,decide_false,cond_false,decide_true,cond_true,this]
 .rw[decide_eq_false h0,cond_false,decide_eq_false G,cond_false,decide_eq_true Y,cond_true,NW,qk,jn8,qk]
theorem jbd {s:aj}{c:UInt8}(h:c ∉ s):f103 s [c]=Eh (s,[],Ho):=by
 unfold f103 f176;rw[ja0,q99 h];rfl
theorem ja6 {a b:aj}{c:UInt8}(h:c ∉ a)(hl:(a++c::b).length<=1073741824):f103 (a++c::b) [c]=Eh (a,b,G1):=by
 unfold f103 f176;have Hq:=hl;simp only[Eb,En]at Hq
 rw[ja0,UX h,qk,decide_eq_true (by omega:(0:Int)<=(a.length:Int)),cond_true,Vx (by simp),qk,yw (by simp only[Eg];omega) (by simp only[Eg];omega),
  show((a.length:Int)+(([c]:aj).length:Int))=((a.length+1:Nat):Int) by simp,F2 (by simp),qk]
 rw[If,show a++c::b=(a++[c])++b by simp,Ie]
 .rfl
 .simp
 .rfl
theorem Vy {α:Type}{o:Option (List α)}{x:α}(h:(o.getD []).length+1<=1073741824):bB o [x]=Eh (Eh (o.getD []++[x])):=by
 unfold bB;rw[if_pos (by simpa using h)];cases o<;>rfl
end Go.Z
namespace Go.Z
open Go Go.Abs Go.W
theorem vh {a b:aj}(h:a.length+b.length<=1073741824):kF a b=Eh (a++b):=by
 unfold kF;rw[if_pos (by omega)]
theorem F3 {p x:aj}{l:List aj}:Lib.joinTail p (x::l)=p++x++Lib.joinTail p l:=by
 simp[Lib.joinTail]
theorem je8 {e:GEv}{L:List aj}(hL:e.names.getD []=L)(hl:L.length<=1000000):∀(k i:Nat) (s:aj),i+k=L.length->s.length+(Lib.joinTail [32] (L.drop i)).length<=1000000000->bu (yV e) (s,(i:Int))=Eh (s++Lib.joinTail [32] (L.drop i),(L.length:Int))
 |0,i,s,hi,h=>by
  obtain rfl:i=L.length:=by omega
  rw[E9 (E4 _)];refine zf ?_;unfold yV;rw[hL];simp only[Hc,decide_false,cond_false];simp[Lib.joinTail]
 |k+1,i,s,hi,h=>by
  have bh:i<L.length:=by omega
  have I:((i:Int)<(L.length:Int)):=by omega
  have M:qo L (i:Int)=Eh L[i]:=by rw[Fl,Ep bh]
  rw[zI bh,F3]at h ⊢;simp only[Eb,Eg]at h;rw[kc (s':=(s++[32]++L[i],((i+1:Nat):Int))),je8 hL hl k (i+1) _ (by omega) (by simp only[Eb,Eg];omega)]
  .simp
  .unfold yV;rw[hL];simp only[I,decide_true,cond_true,M,qk];rw[vh (by simp only[Eg];omega),qk,vh (by simp only[Eb,Eg];omega),qk,yw (by omega) (by omega)];rfl
theorem Vz {v:Int}(h0:0<=v)(Y:v<1000000000):f28 v=Eh (Lib.itoa v):=by
 rw[zH h0];have hu:(v.toNat:Int)=v:=G8 h0;have:=juh (u:=v.toNat) (by omega);rw[hu]at this;exact this
theorem q90 {e:GEv}{L:List Int}(hL:e.values.getD []=L)(hl:L.length<=1000000)(hv:∀v∈L,0<=v/\v<1000000000):∀(k i:Nat) (s:aj),i+k=L.length->s.length+(Lib.joinTail [32] ((L.drop i).map Lib.itoa)).length<=1000000000->bu (wP e) (s,(i:Int))=Eh (s++Lib.joinTail [32] ((L.drop i).map Lib.itoa),(L.length:Int))
 |0,i,s,hi,h=>by
  obtain rfl:i=L.length:=by omega
  rw[E9 (E4 _)];refine zf ?_;unfold wP;rw[hL];simp only[Hc,decide_false,cond_false];simp[Lib.joinTail]
 |k+1,i,s,hi,h=>by
  have bh:i<L.length:=by omega
  have I:((i:Int)<(L.length:Int)):=by omega
  have M:qo L (i:Int)=Eh L[i]:=by rw[Fl,Ep bh]
  have hb:=hv L[i] (Mh bh);rw[zI bh,Hs,F3]at h ⊢;simp only[Eb,Eg]at h;rw[kc (s':=(s++[32]++Lib.itoa L[i],((i+1:Nat):Int))),q90 hL hl hv k (i+1) _ (by omega) (by simp only[Eb,Eg];omega)]
  .simp
  .unfold wP;rw[hL];simp only[I,decide_true,cond_true,M,qk];rw[vh (by simp only[Eg];omega),qk,Vz hb.1 hb.2,qk,vh (by simp only[Eb,Eg];omega),qk,yw (by omega) (by omega)];rfl
theorem q74 {p:aj}(a b:List aj):Lib.joinTail p (a++b)=Lib.joinTail p a++Lib.joinTail p b:=by
 simp[Lib.joinTail]
theorem NZ (e:cf):kj e=Lib.itoa e.number++[32]++e.kind++Lib.joinTail [32] e.names++Lib.joinTail [32] (e.values.map Lib.itoa):=by
 unfold kj pg;rw[Lib.join_cons,F3,q74];simp
theorem jr2 {e:GEv}(hn:0<=e.number/\e.number<1000000000)(hv:∀v∈e.values.getD [],0<=v/\v<1000000000)(Y:(e.names.getD []).length<=1000000)(I:(e.values.getD []).length<=1000000)(hb:(kj e.er).length<=1000000000):f27 e=Eh (kj e.er):=by
 rw[NZ]at hb ⊢;simp only[GEv.er]at hb ⊢;simp only[Eb,Eg]at hb;unfold f27;rw[Vz hn.1 hn.2,qk,vh (by simp only[Eg];omega),qk,vh (by simp only[Eb,Eg];omega),qk];have l1:=je8 (e:=e) rfl Y _ 0 (Lib.itoa e.number++[32]++e.kind) (Hy _) (by simp only[Eb,Eg,G5];omega);rw[G5]at l1;rw[show bu (yV e) (Lib.itoa e.number++[32]++e.kind,0)=_ from l1,qk];have l2:=q90 (e:=e) rfl I hv _ 0 (Lib.itoa e.number++[32]++e.kind++Lib.joinTail [32] (e.names.getD [])) (Hy _) (by simp only[Eb,Eg,G5];omega);rw[G5]at l2;show qc (bu (wP e) (Lib.itoa e.number++[32]++e.kind++Lib.joinTail [32] (e.names.getD []),0)) _=_;rw[show bu (wP e) (Lib.itoa e.number++[32]++e.kind++Lib.joinTail [32] (e.names.getD []),0)=_ from l2,qk]
end Go.Z
namespace Go.Z
open Go Go.Abs Go.W
theorem q98 {v:Int}(h0:0<=v)(Y:v<1000000000):f26 v=Eh (Lib.itoa v):=by
 rw[zH h0];have hu:(v.toNat:Int)=v:=G8 h0;have:=JN (u:=v.toNat) (by omega);rw[hu]at this;exact this
theorem q9q {O:ak Int}{L:List Int}(hL:O.getD []=L)(hl:L.length<=1000000)(hv:∀v∈L,0<=v/\v<1000000000):∀(k i:Nat) (o:ak aj) (fl:Bool),i+k=L.length->(o.getD []).length<=i->(fl=G1\/o=Ha) ->
  ∃o' B8,bu (yX O) (o,(i:Int),fl)=Eh (o',B8,(L.length:Int))/\o'.getD []=o.getD []++(L.drop i).map Lib.itoa
 |0,i,o,fl,hi,eh,hf=>by
  obtain rfl:i=L.length:=by omega
  rw[E9 (E4 _)];refine⟨o,fl,zf ?_,by simp⟩;unfold yX;rw[hL];simp only[Hc,decide_false,cond_false]
 |k+1,i,o,fl,hi,eh,hf=>by
  have bh:i<L.length:=by omega
  have I:((i:Int)<(L.length:Int)):=by omega
  have M:qo L (i:Int)=Eh L[i]:=by rw[Fl,Ep bh]
  have hb:=hv L[i] (Mh bh);have hw:qf .i64 ((i:Int)+1)=((i+1:Nat):Int):=zc (by omega);have mC:=Vy (x:=Lib.itoa L[i]) (o:=o) (by omega);obtain⟨o',B8,h3,h4⟩:=q9q hL hl hv k (i+1) (Eh (o.getD []++[Lib.itoa L[i]])) G1 (by omega) (by simp;omega) (.inl rfl);refine⟨o',B8,?_,?_⟩
  .rw[kc (s':=(Eh (o.getD []++[Lib.itoa L[i]]),((i+1:Nat):Int),G1)),h3];unfold yX;rw[hL];simp only[I,decide_true,cond_true,M,qk,q98 hb.1 hb.2,mC,hw];rcases hf with rfl|rfl
   .rfl
   .cases fl<;>rfl
  .rw[h4,zI bh,Hs,E8,H5];rfl
theorem joh {O:ak Int}(hl:(O.getD []).length<=1000000)(hv:∀v∈O.getD [],0<=v/\v<1000000000):∃o fl,f174 O=Eh (o,fl)/\o.getD []=(O.getD []).map Lib.itoa:=by
 obtain⟨o,fl,Y,I⟩:=q9q (O:=O) rfl hl hv _ 0 Ha Ho (Hy _) (E4 _) (.inr rfl);refine⟨o,fl,?_,by simpa using I⟩;unfold f174;rw[show bu (yX O) (Ha,0,Ho)=_ from Y,qk]
theorem q48 {α:Type}{a ys:List α}(h:a.length+ys.length<=1073741824)(ha:a≠[]):bB (Eh a) ys=Eh (Eh (a++ys)):=by
 unfold bB;rw[if_pos (by simpa using h)]
 cases ys with
 |nil=>simp[yB]|cons y t=>simp[yB]
theorem VA {s:aj}{ss:List aj}{p:aj}(Y:(s::ss).length<=100000)(I:(Lib.join (s::ss) p).length<=100000000):f29 (Eh (s::ss)) p=Eh (Lib.join (s::ss) p):=by
 have jG:(p.intercalate (s::ss)).length<=100000000:=I;simp only[f29];rw[Ij Y,Ij jG,Bool.and_self,cond_true];rfl
theorem jnm {e:GEv}(hn:0<=e.number/\e.number<1000000000)(hv:∀v∈e.values.getD [],0<=v/\v<1000000000)(Y:(e.names.getD []).length<=10000)(I:(e.values.getD []).length<=10000)(hb:(kj e.er).length<=100000000):f101 e=Eh (kj e.er):=by
 obtain⟨o,fl,h3,h4⟩:=joh (O:=e.values) (by omega) hv;unfold f101;rw[q98 hn.1 hn.2,qk,q48 (by simp only[En,Ig];omega) (by simp),qk,h3,qk];show qc (bB _ (o.getD [])) _=_;rw[h4,q48 (by simp only[Eb,En,Ig,Hk];omega) (by simp),qk];have he:kj e.er=Lib.join (Lib.itoa e.number::e.kind::(e.names.getD []++(e.values.getD []).map Lib.itoa)) [32]:=rfl;rw[he]at hb ⊢;have:=VA (s:=Lib.itoa e.number) (ss:=e.kind::(e.names.getD []++(e.values.getD []).map Lib.itoa)) (p:=[32]) (by simp only[Eb,En,Hk];omega) hb;show qc (f29 (Eh ([Lib.itoa e.number,e.kind]++e.names.getD []++(e.values.getD []).map Lib.itoa)) [32]) _=_;rw[show [Lib.itoa e.number,e.kind]++e.names.getD []++(e.values.getD []).map Lib.itoa=Lib.itoa e.number::e.kind::(e.names.getD []++(e.values.getD []).map Lib.itoa) by simp,this,qk]
theorem jri {e:GEv}(hn:0<=e.number/\e.number<1000000000)(hv:∀v∈e.values.getD [],0<=v/\v<1000000000)(Y:(e.names.getD []).length<=10000)(I:(e.values.getD []).length<=10000)(hb:(kj e.er).length<=100000000):f31 e=Eh (yo e.er++[10]):=by
 have h7:(vg (kI (kj e.er))).length=7:=q3f (NT _).1 (by have:=(NT (kj e.er)).2;omega);unfold f31;rw[jnm hn hv Y I hb,qk,vh (by simp only[Eg];omega),qk,ja3 (by omega),qk,vh (by simp only[Eb,Eg];omega),qk,vh (by simp only[Eb,Eg];omega),qk];unfold yo;simp
end Go.Z
namespace Go.Z
open Go Go.Abs Go.W
structure OkE (e:GEv):Prop where
 num:0<=e.number/\e.number<1000000000
 vals:∀v∈e.values.getD [],0<=v/\v<1000000000
 l1:(e.names.getD []).length<=10000
 l2:(e.values.getD []).length<=10000
 lb:(kj e.er).length<=1000000
end Go.Z
namespace Go.Z
open Go Go.Abs Go.W
theorem jtx (w:aj)(g:Bool):f88 w g=Eh (match kH w with|none=>(0,Ho)|some v=>(v,g)):=by
 unfold f88;rw[Vv,qk];cases kH w<;>cases g<;>rfl
theorem jbc {O:ak aj}{L:List aj}(hL:O.getD []=L)(hl:L.length<=1000000):∀(k i:Nat) (o:ak Int) (g fl:Bool),i+k=L.length->(o.getD []).length<=i->(fl=G1\/o=Ha) ->
  ∃o' B8,bu (yY O) (o,(i:Int),g,fl)=Eh (o',B8,(L.length:Int),g&&(mN (L.drop i)).isSome)/\∀l,mN (L.drop i)=Eh l->o'.getD []=o.getD []++l
 |0,i,o,g,fl,hi,eh,hf=>by
  obtain rfl:i=L.length:=by omega
  rw[E9 (E4 _)];refine⟨o,fl,zf ?_,fun l hl=>by cases hl;simp⟩;unfold yY;rw[hL];simp only[Hc,decide_false,cond_false];simp[mN]
 |k+1,i,o,g,fl,hi,eh,hf=>by
  have bh:i<L.length:=by omega
  have I:((i:Int)<(L.length:Int)):=by omega
  have M:qo L (i:Int)=Eh L[i]:=by rw[Fl,Ep bh]
  have hw:qf .i64 ((i:Int)+1)=((i+1:Nat):Int):=zc (by omega)
  obtain⟨v,g',hv,hg⟩:∃v g',f88 L[i] g=Eh (v,g')/\(g'=(g&&(kH L[i]).isSome)/\∀x,kH L[i]=Eh x->v=x):=by
   rw[jtx];cases kH L[i]with
   |none=>exact⟨0,Ho,rfl,by simp,fun x M=>by cases M⟩|some x=>exact⟨x,g,rfl,by simp,fun y hy=>by cases hy;rfl⟩
  have mC:=Vy (x:=v) (o:=o) (by omega);obtain⟨o',B8,h3,h4⟩:=jbc hL hl k (i+1) (Eh (o.getD []++[v])) g' G1 (by omega) (by simp;omega) (.inl rfl);refine⟨o',B8,?_,?_⟩
  .rw[kc (s':=(Eh (o.getD []++[v]),((i+1:Nat):Int),g',G1)),h3]
   .rw[zI bh,hg.1];simp only[mN];cases kH L[i]with
    |none=>simp|some x=>cases mN (L.drop (i+1))<;>simp
   .unfold yY;rw[hL];simp only[I,decide_true,cond_true,M,qk,hv,mC,hw];rcases hf with rfl|rfl
    .rfl
    .cases fl<;>rfl
  .intro l hn;rw[zI bh]at hn;simp only[mN]at hn;cases M:kH L[i]with
   |none=>rw[M]at hn;cases hn
   |some x=>
    rw[M]at hn
    cases Q:mN (L.drop (i+1))with
    |none=>rw[Q]at hn;cases hn
    |some t=>
     rw[Q]at hn;cases hn;rw[h4 t Q,hg.2 x M];simp
theorem jsy {O:ak aj}(hl:(O.getD []).length<=1000000):∃o fl,f87 O G1=Eh (o,fl,(mN (O.getD [])).isSome)/\∀l,mN (O.getD [])=Eh l->o.getD []=l:=by
 obtain⟨o,fl,Y,I⟩:=jbc (O:=O) rfl hl _ 0 Ha G1 Ho (Hy _) (E4 _) (.inr rfl);refine⟨o,fl,?_,fun l h=>by simpa using I l h⟩;unfold f87;rw[show bu (yY O) (Ha,0,G1,Ho)=_ from Y,qk];simp
end Go.Z
namespace Go.Z
open Go Go.Abs Go.W
theorem q82:∀ x∈cz,x.2.1<=10/\x.2.2<=10:=by decide
theorem VB {k f}(h:z6 k=Eh f):f.1<=10/\f.2<=10:=q82 _ (NU h)
theorem jrt {a:ak aj}(h:(a.getD []).length<=1000000):∃o fl,f86 a=Eh (o,fl)/\o.getD []=a.getD []:=by
 unfold f86
 cases a with
 |none=>exact⟨Ha,Ho,rfl,rfl⟩
 |some l=>
  have:bB (Eh []) l=Eh (Eh l):=yC (by simp only[E8]at h;unfold SM;omega);refine⟨Eh l,G1,?_,rfl⟩;simp only[Option.isNone_some,cond_false,E8];rw[this,qk]
theorem jgx {O:ak aj}{n:Int}{k:aj}{r:List aj}(h:O=Eh (k::r))(hl:r.length<=100000):∃e b,f23 O n=Eh (e,b)/\(match rz (k::r) n with|none=>b=Ho|some x=>b=G1/\e.er=x):=by
 subst h;have M:qo ((Eh (k::r)).getD []) 0=Eh k:=rfl;unfold f23;rw[M,qk];rcases UD k with⟨Y,I⟩|⟨f,Y,I,h3⟩
 .have hi:lP k=Ho:=by unfold lP;rw[Y];rfl
  rw[hi,cond_false];exact⟨_,_,rfl,by simp only[rz,I]⟩
 .have hi:lP k=G1:=by unfold lP;rw[Y];rfl
  have Q:j0 k=f.2.1:=by unfold j0;rw[Y]
  have hv:lO k=f.2.2.1:=by unfold lO;rw[Y]
  have G:=VB I;have hk:k≠[]:=(q24 _ (NU I)).1;simp only[]at G;rw[hi,cond_true,Q,hv,yw (x:=1+(f.2.1.length:Int)) (by omega) (by omega),yw (x:=1+(f.2.1.length:Int)+f.2.2.1) (by omega) (by omega)];simp only[E8,En];by_cases hc:r.length=f.2.1.length+f.2.2.1.toNat
  .rw[decide_eq_true (show((r.length+1:Nat):Int)=1+(f.2.1.length:Int)+f.2.2.1 by omega),cond_true,UL (by simp only[E8,En];unfold SM;omega),qk]
   have he:((Eh (k::r)).getD []).any (fun x=>decide (([]:aj)=x))=decide ([]∈r):=by
    simp only[E8,List.any_cons,decide_eq_false (show ¬([]:aj)=k from fun e=>hk e.symm),Bool.false_or];by_cases hm:([]:aj)∈r
    .rw[decide_eq_true hm,List.any_eq_true];exact⟨[],hm,by simp⟩
    .rw[decide_eq_false hm,List.any_eq_false];intro x M;simp only[decide_eq_true_eq];rintro rfl;exact hm M
   rw[he];by_cases hm:([]:aj)∈r
   .rw[decide_eq_true hm,cond_true];refine⟨_,_,rfl,?_⟩;simp only[rz,I,hc,hm,not_true,and_false,if_false]
   .rw[decide_eq_false hm,cond_false]
    have hA:mH (Eh (k::r)) (Eh 1) (Eh (1+(f.2.1.length:Int)))=Eh (Eh (r.take f.2.1.length)):=by
     simp only[mH,E8,jN,mL];rw[if_pos ⟨by omega,by simp only[En];omega⟩];simp only[];rw[if_pos ⟨by omega,by omega⟩];rw[show(1+(f.2.1.length:Int)).toNat=f.2.1.length+1 by omega];rfl
    have hB:mH (Eh (k::r)) (Eh (1+(f.2.1.length:Int))) Ha=Eh (Eh (r.drop f.2.1.length)):=by
     simp only[mH,E8,jN,mL];rw[if_pos ⟨by omega,by simp only[En];omega⟩];rw[show(1+(f.2.1.length:Int)).toNat=f.2.1.length+1 by omega,Ma];rfl
    obtain⟨o1,b1,g1,g2⟩:=jrt (a:=Eh (r.take f.2.1.length)) (by simp only[E8,Ib];omega);obtain⟨o2,b2,g3,g4⟩:=jsy (O:=Eh (r.drop f.2.1.length)) (by simp only[E8,Hd];omega);rw[hA,qk,g1,qk,hB,qk,g3,qk];simp only[E8]at g2 g4;simp only[E8,rz,I,hc,hm,not_false_eq_true,and_true,if_true]
    cases hn:mN (r.drop f.2.1.length)with
    |none=>cases b2<;>exact⟨_,_,rfl,rfl⟩
    |some vs=>
     have:=g4 vs hn;cases b2<;>exact⟨_,_,rfl,rfl,by simp only[GEv.er,g2,this]⟩
  .rw[decide_eq_false (show ¬((r.length+1:Nat):Int)=1+(f.2.1.length:Int)+f.2.2.1 by omega),cond_false];refine⟨_,_,rfl,?_⟩;simp only[rz,I,hc,false_and,if_false]
end Go.Z
namespace Go.Z
open Go Go.Abs Go.W
theorem VC {s:aj}{c:UInt8}(h:s.length<=1000000000):f19 s [c]=Eh (Eh (eR c s)):=by
 simp only[f19];rw[Nat.blt_eq.mpr (show s.length<4294967281 by omega),cond_true]
theorem jpf {s:aj}(G:s.length<=90000):∃e b,f179 s=Eh (e,b)/\(match wV s with|none=>b=Ho|some x=>b=G1/\e.er=x):=by
 unfold f179;rcases Ny 32 s with h|⟨a,b,rfl,h⟩
 .rw[jbd h,qk,Vv,qk];refine⟨_,_,rfl,?_⟩;simp only[wV,sZ h]
  cases kH s with
  |none=>exact trivial|some n=>exact trivial
 .have hb:b.length<=90000:=by simp only[Eb,En]at G;omega
  rw[ja6 h (by omega),qk,Vv,qk];simp only[wV,wM h,cond_true]
  cases hn:kH a with
  |none=>exact⟨_,_,rfl,rfl⟩
  |some n=>
   simp only[cond_true];rw[VC (by omega),qk]
   cases nh:eR 32 b with
   |nil=>exact absurd nh (JC 32 b)
   |cons k r=>
    have Q:r.length<=100000:=by have:=q97 32 b;rw[nh]at this;simp only[En]at this;omega
    obtain⟨e,t,Y,I⟩:=jgx (n:=n) (rfl:Eh (k::r)=Eh (k::r)) Q;rw[Y,qk]
    cases hw:rz (k::r) n with
    |none=>
     rw[hw]at I;simp only[]at I ⊢;rw[I];exact⟨_,_,rfl,rfl⟩
    |some x=>
     rw[hw]at I;simp only[]at I ⊢;obtain⟨f,g1,g2,g3⟩:=(qvm hw).2.2.2.1;have hf:=VB g1
     have e1:e.names.getD []=x.names:=by rw[<-I.2];rfl
     have e2:e.values.getD []=x.values:=by rw[<-I.2];rfl
     rw[I.1,cond_true,Nr (by rw[e1];unfold SM;omega) (by rw[e2];unfold SM;omega),qk,I.2];refine⟨_,_,rfl,?_⟩;by_cases hc:jb x=0
     .simp only[hc,if_true,decide_true,true_and];exact I.2
     .simp only[hc,if_false,decide_false]
theorem joo {s:aj}{n:Nat}(G:s.length<=90000)(hn:n<=1000000):∃e k,f104 s (n:Int)=Eh (e,k)/\(match rA s n with | .error c=>k=c | .ok x=>k=0/\e.er=x):=by
 unfold f104 rA;rw[yw (x:=(s.length:Int)-8) (by omega) (by omega)];by_cases h8:s.length<8
 .rw[decide_eq_true (show(s.length:Int)-8<0 by omega),cond_true,if_pos h8];exact⟨_,_,rfl,rfl⟩
 .rw[decide_eq_false (show ¬(s.length:Int)-8<0 by omega),cond_false,if_neg h8]
  have bh:s.length-8<s.length:=by omega
  have ht:(s.take (s.length-8)).length<=90000:=by rw[Ib];omega
  rw[show(s.length:Int)-8=((s.length-8:Nat):Int) by omega,je0 bh,qk,yw (x:=((s.length-8:Nat):Int)+1) (by omega) (by omega),show((s.length-8:Nat):Int)+1=((s.length-7:Nat):Int) by omega,F2 (by omega),Ep bh];by_cases pT:s[s.length-8]=35
  .have B9:((s[s.length-8].toNat:Int)=35):=by rw[pT];rfl
   rw[decide_eq_true B9,cond_true,qk,jpi,qk]
   cases hd:(s.drop (s.length-7)).all jP with
   |false=>
    rw[if_pos (.inr rfl)];exact⟨_,_,rfl,rfl⟩
   |true=>
    rw[if_neg (by simp[pT])];simp only[H6,cond_false];rw[Vx (by omega),qk,ja3 (by omega),qk];by_cases h7:s.drop (s.length-7)=vg (kI (s.take (s.length-8)))
    .rw[decide_eq_true h7,cond_true,if_neg (fun h=>h h7)];obtain⟨e,t,Y,I⟩:=jpf ht;rw[Y,qk,yh,qk,yh,qk,jph,qk,yw (by omega) (by omega)]
     cases hp:wV (s.take (s.length-8))with
     |none=>
      rw[hp]at I;simp only[]at I;rw[I];exact⟨_,_,rfl,rfl⟩
     |some x=>
      rw[hp]at I;simp only[]at I ⊢
      have M:e.number=x.number:=by rw[<-I.2];rfl
      rw[I.1];by_cases hq:x.number=(n:Int)+1
      .have e1:(!decide (e.number=(n:Int)+1))=Ho:=by rw[M,hq];simp
       rw[show(if x.number≠(n:Int)+1 then(Except.error 11:Except Int cf)else .ok x)=.ok x from if_neg (fun h=>h hq)];simp only[e1];exact⟨_,_,rfl,rfl,I.2⟩
      .have e1:(!decide (e.number=(n:Int)+1))=G1:=by rw[M];simp[hq]
       rw[show(if x.number≠(n:Int)+1 then(Except.error 11:Except Int cf)else .ok x)=.error 11 from if_pos hq];simp only[e1];exact⟨_,_,rfl,rfl⟩
    .rw[decide_eq_false h7,cond_false,if_pos h7];exact⟨_,_,rfl,rfl⟩
  .have B9:¬((s[s.length-8].toNat:Int)=35):=fun e=>pT (Hx.1 (by have:(35:UInt8).toNat=35:=rfl;omega));rw[decide_eq_false B9,cond_false,if_pos (.inl (fun e=>pT (Eh.inj e)))];exact⟨_,_,rfl,rfl⟩
end Go.Z
namespace Go.Z
open Go Go.Abs Go.W
def jml:((ak GEv)×Bool×Int×Int)⊕((ak GEv)×Bool×Int)->(ak GEv)×Int×Int
 | .inl d=>(d.1,d.2.2.1,d.2.2.2)| .inr d=>(d.1,d.2.2,0)
def VD (t:(ak GEv)×Int×Int)(w:List cf×Nat×Int):Prop:=(t.1.getD []).map GEv.er=w.1/\t.2.1=(w.2.1:Int)/\t.2.2=w.2.2
theorem jsm {s:aj}(G:s.length<=90000):∀(k a:Nat) (o:ak GEv) (fl:Bool),s.length<=a+k->a<=s.length->(o.getD []).length<=a->(fl=G1\/o=Ha) ->
  ∃d,bu (tc s) (o,(a:Int),fl)=Eh d/\VD (jml d) (mO (eR 10 (s.drop a)) a ((o.getD []).map GEv.er)):=by
 intro k
 induction k with
 |zero=>
  intro a o fl Y I h3 hf
  obtain rfl:a=s.length:=by omega
  refine⟨.inr (o,fl,(s.length:Int)),zf ?_,?_⟩
  .unfold tc;simp only[Hc,decide_false,cond_false]
  .rw[E9 (E4 _),sZ (by simp)];exact⟨rfl,rfl,rfl⟩
 |succ k ih=>
  intro a o fl Y I h3 hf;by_cases ha:a=s.length
  .subst ha;refine⟨.inr (o,fl,(s.length:Int)),zf ?_,?_⟩
   .unfold tc;simp only[Hc,decide_false,cond_false]
   .rw[E9 (E4 _),sZ (by simp)];exact⟨rfl,rfl,rfl⟩
  .have bh:(a:Int)<(s.length:Int):=by omega
   have bI:s.drop a≠[]:=by
    intro e;have:=congrArg L6 e;rw[Hd,Ig]at this;omega
   have hld:(s.drop a).length<=90000:=by rw[Hd];omega
   rcases Ny 10 (s.drop a)with h|⟨x,y,he,M⟩
   .refine⟨.inl (o,fl,(a:Int),29),zf ?_,?_⟩
    .unfold tc;simp only[bh,decide_true,cond_true,F2 I,qk,jbd h,cond_false]
    .rw[sZ h];refine⟨rfl,rfl,?_⟩
     show(29:Int)=if s.drop a=[]then 0 else 29
     rw[if_neg bI]
   .have hlen:x.length+y.length+1<=90000:=by rw[he]at hld;simp only[Eb,En]at hld;omega
    have oQ:a+(x.length+y.length+1)=s.length:=by
     have:=congrArg L6 he;simp only[Hd,Eb,En]at this;omega
    have h84:f103 (s.drop a) [10]=Eh (x,y,G1):=by rw[he];exact ja6 M (by simp only[Eb,En];omega)
    obtain⟨e,c,g1,g2⟩:=joo (s:=x) (n:=(o.getD []).length) (by omega) (by omega)
    have hy:y=s.drop (a+x.length+1):=by
     have:(s.drop a).drop (x.length+1)=y:=by rw[he,show x++10::y=(x++[10])++y by simp,Ie (by simp)]
     rw[<-this,List.drop_drop];congr 1
    rw[he,wM M,Vu (JC 10 y),Hk]
    cases hL:rA x (o.getD []).length with
    |error q=>
     rw[hL]at g2;simp only[]at g2;have hq:=q7p hL;refine⟨.inl (o,fl,(a:Int),c),zf ?_,rfl,rfl,g2⟩;unfold tc
     have hc:¬c=0:=by rw[g2];exact hq
     simp only[bh,decide_true,cond_true,F2 I,qk,h84,g1,hc,decide_false,cond_false]
    |ok v=>
     rw[hL]at g2;simp only[]at g2;have mC:=Vy (x:=e) (o:=o) (by omega);obtain⟨d,d1,d2⟩:=ih (a+x.length+1) (Eh (o.getD []++[e])) G1 (by omega) (by omega) (by simp;omega) (.inl rfl);refine⟨d,?_,?_⟩
     .rw[kc (s':=(Eh (o.getD []++[e]),((a+x.length+1:Nat):Int),G1)),d1];unfold tc
      have hw:qf .i64 ((a:Int)+(qf .i64 ((x.length:Int)+1)))=((a+x.length+1:Nat):Int):=by
       rw[yw (x:=(x.length:Int)+1) (by omega) (by omega),yw (by omega) (by omega)];omega
      simp only[bh,decide_true,cond_true,F2 I,qk,h84,g1,g2.1,mC,hw];rcases hf with rfl|rfl
      .rfl
      .cases fl<;>rfl
     .rw[<-hy]at d2;simp only[E8,List.map_append,Hs,List.map_nil,g2.2]at d2;exact d2
theorem jrv {s:aj}(G:s.length<=90000):∃t,f32 s=Eh t/\VD t (mP s):=by
 obtain⟨d,d1,d2⟩:=jsm G s.length 0 Ha Ho (by omega) (by omega) (E4 _) (.inr rfl);refine⟨jml d,?_,d2⟩;unfold f32;rw[decide_eq_false (show ¬(1000000:Int)<(s.length:Int) by omega),cond_false,show bu (tc s) (Ha,0,Ho)=_ from d1,qk];rcases d with d|d<;>rfl
end Go.Z
end
