/- The library's functions in the abstract machine. -/
import Derived.Test.YtlhfdilpecnjeaaGreatDoorZS
import Derived.Test.YtlhfdilpecnjeaaGreatDoorZP
import Derived.Lib.AppendIntMem
import Derived.Test.YtlhfdilpecnjeaaGreatDoorL1
set_option linter.all false
set_option maxRecDepth 100000
noncomputable section
open Bool renaming false->En,and_eq_true->Gd,cond_eq_ite->Hc,true->Hq,false_eq_true->If
open Nat renaming eq_of_beq_eq_true->Ga,beq->Ha,le_of_ble_eq_true->Hb,blt->Ig,ble->Ii,le_refl->Ip,blt_eq->Iu
open Option renaming some->Gb,none->H2
open List renaming cons_append->Ij,length_map->Ik,isPrefixOf->Io,length_singleton->Ir,length_append->Ix,length_cons->Iy,mem_map->Iz,map_map->I0
namespace Go.Z
open Go Go.Abs Go.Proofs Go.RowKit
theorem q9i {C}:∀(l:List ByteArray),bq C (l.map fun s=>.str s.data.toList) (l.map Value.string)
 | []=>.nil|s::l=>.cons _ _ _ _ (show bW C (.str s.data.toList) (.string s)from .str _) (q9i l)
theorem q8r {C r}:∀ {ss:List aj} {o:Nat},bE C r 1 (ss.map AVal.str) o->∀(j:Nat) s,ss[j]?=Gb s->C.K r (o+j)=Gb (.string ⟨⟨s⟩⟩)
 | [],o,_,j,s,hj=>by simp at hj
 |x::ss,o,h,j,s,hj=>by
  cases h with
  |dw _ _ _ _ _ G M Q=>
   cases j with
   |zero=>
    simp only[List.getElem?_cons_zero,Gb.injEq]at hj;subst hj
    cases M with
    |dE _ _ _ _ u hv hu _=>
     rw[Nat.add_zero,hv,bW.cB hu]
   |succ j=>
    have:=q8r Q j s (by simpa using hj);rw[show o+(j+1)=o+1+j by omega];exact this
theorem XR {w w'}(h:Below w.heap.size w w'):Ext w w':=⟨h.size,h.block,h.os,h.output⟩
theorem jnp {n}(h0:-9223372036854775808<=n)(Y:n<=9223372036854775807):IsoCall Tryz.prog 43 [.int .i64 n] (.str (Lib.itoa n)) En:=by
 refine JP fun K w vs ht hk Q=>?_
 cases Q with
 |cons _ _ v vs M Q=>
  cases Q;obtain rfl:=bW.bY M
  have hg:Tryz.prog.globalNamed qH=Gb 1:=by kernel_rfl
  refine⟨.string ⟨⟨Lib.itoa n⟩⟩,.str _,(Tryz.strconv_Itoa n h0 Y w (ht.table hg)).mono ?_⟩;rintro e w' ⟨rfl,k,os,rfl⟩;exact⟨rfl,XR (Lib.below_grow w.heap.size w (Ip _) k os)⟩
theorem q5w {s c}:IsoCall Tryz.prog 256 [.str s,.int .u8 c] (.int .i64 (Lib.indexByte s c.toNat.toUInt8)) En:=by
 refine JP fun K w vs ht hk Q=>?_
 cases Q with
 |cons _ _ v vs M Q=>
  cases Q with
  |cons _ _ v2 vs jL Q=>
   cases Q;obtain rfl:=bW.cB M;obtain rfl:=bW.bY jL;refine⟨_,.int _ _,(Tryz.stringslite_IndexByte ⟨⟨s⟩⟩ c w).mono ?_⟩;rintro e w' ⟨rfl,rfl⟩;exact⟨rfl,Ext.refl _⟩
theorem jjz {s p}(G:s.length<4294967281)(hp:1<=p.length):IsoCall Tryz.prog 19 [.str s,.str p] (.list En 1 ((Lib.splitB ⟨⟨p⟩⟩ 0 (Lib.countB ⟨⟨s⟩⟩ ⟨⟨p⟩⟩) ⟨⟨s⟩⟩).map fun x=>.str x.data.toList)) En:=by
 refine jli (us:=(Lib.splitB ⟨⟨p⟩⟩ 0 (Lib.countB ⟨⟨s⟩⟩ ⟨⟨p⟩⟩) ⟨⟨s⟩⟩).map Value.string) (t:=9) (fun x M=>?_) (fun K=>q9i _) (fun u hu=>?_) fun K w vs ht hk Q=>?_
 .obtain⟨y,_,rfl⟩:=Iz.1 M;rfl
 .obtain⟨y,_,rfl⟩:=Iz.1 hu;rfl
 .cases Q with
  |cons _ _ v vs M Q=>
   cases Q with
   |cons _ _ v2 vs jL Q=>
    cases Q;obtain rfl:=bW.cB M;obtain rfl:=bW.cB jL
    have hg0:Tryz.prog.globalNamed A2=Gb 0:=by kernel_rfl
    obtain⟨m,hm⟩:=ht.length hg0;refine(Tryz.strings_Split ⟨⟨s⟩⟩ ⟨⟨p⟩⟩ m w G hm hp).mono ?_;rintro e w' ⟨rfl,rfl⟩;refine⟨?_,rfl⟩;rw[Ik,Lib.splitB_all ⟨⟨p⟩⟩ hp 0 _ ⟨⟨s⟩⟩ rfl]
theorem joe {ss p}(bN:ss≠[])(hN:ss.length<=140737488355328)(hlen:(Lib.join ss p).length<=140737488355328):IsoCall Tryz.prog 47 [.list En 1 (ss.map .str),.str p] (.str (Lib.join ss p)) En:=by
 refine JP fun K w vs ht hk Q=>?_
 cases Q with
 |cons _ _ v vs M Q=>
  cases Q with
  |cons _ _ v2 vs jL Q=>
   cases Q;obtain rfl:=bW.cB jL
   have hl:∃r o cap,v=.slice (Gb ⟨r,o,H2⟩) (ss.map AVal.str).length cap/\(ss.map AVal.str).length<=cap/\bE (.cf K) r 1 (ss.map .str) o:=by
    generalize hq:ss.map AVal.str=q at M
    cases M with
    |list _ _ r o cap hl de=>exact⟨r,o,cap,rfl,hl,de⟩|kE _ a G=>exact absurd (List.map_eq_nil_iff.1 hq) bN
   obtain⟨r,o,cap,rfl,hcap,de⟩:=hl
   have nc:(ss.map fun s=>(⟨⟨s⟩⟩:ByteArray)).map (·.data.toList)=ss:=by
    rw[I0];exact List.map_id' _
   have hcells:∀(j:Nat) x,(ss.map fun s=>(⟨⟨s⟩⟩:ByteArray))[j]?=Gb x->w.cell? ⟨r,o+j,H2⟩=Gb (.string x):=by
    intro j x hj;rw[List.getElem?_map,Option.map_eq_some_iff]at hj;obtain⟨s,G,rfl⟩:=hj;exact hk _ _ _ (q8r de j s G)
   have hbk:r<w.heap.size:=by
    cases xd:ss with
    |nil=>exact absurd xd bN
    |cons s l=>
     have:=hcells 0 ⟨⟨s⟩⟩ (by rw[xd];rfl);rcases Nat.lt_or_ge r w.heap.size with h|h
     .exact h
     .simp[World.cell?,Array.getElem?_eq_none h]at this
   have hj:=Tryz.strings_Join r o cap (ss.map fun s=>(⟨⟨s⟩⟩:ByteArray)) ⟨⟨p⟩⟩ w hcells hbk (by simpa using hN) (by simpa using hcap) (by rw[nc];exact hlen);rw[nc,Ik]at hj;rw[Ik];refine⟨.string ⟨⟨Lib.join ss p⟩⟩,.str _,hj.mono ?_⟩;rintro e w' ⟨rfl,hb⟩;exact⟨rfl,XR hb⟩
theorem jf4 {s:aj}{c}(hc:c<=9223372036854775807)(hlen:s.length*c<=140737488355328):IsoCall Tryz.prog 211 [.str s,.int .i64 (c:Int)] (.str (Lib.repeatL s c)) En:=by
 refine JP fun K w vs ht hk Q=>?_
 cases Q with
 |cons _ _ v vs M Q=>
  cases Q with
  |cons _ _ v2 vs jL Q=>
   cases Q;obtain rfl:=bW.cB M;obtain rfl:=bW.bY jL;refine⟨.string ⟨⟨Lib.repeatL s c⟩⟩,.str _,(Tryz.strings_Repeat ⟨⟨s⟩⟩ c w hc hlen).mono ?_⟩;rintro e w' ⟨rfl,hb⟩;exact⟨rfl,XR hb⟩
theorem q53 {p}:IsoCall Tryz.prog 47 [.list Hq 0 [],.str p] (.str []) En:=by
 refine JP fun K w vs ht hk Q=>?_
 cases Q with
 |cons _ _ v vs M Q=>
  cases Q with
  |cons _ _ v2 vs jL Q=>
   cases Q;obtain rfl:=bW.cB jL;cases M;refine⟨.string ⟨#[]⟩,.str _,(Tryz.strings_Join_none _ _ ⟨⟨p⟩⟩ w).mono ?_⟩;rintro e w' ⟨rfl,rfl⟩;exact⟨rfl,Ext.refl _⟩
end Go.Z
namespace Go.Z
open Go Go.Abs Go.Proofs
def sD (c:UInt8)(acc:aj):aj->List aj
 | []=>[acc]
 |x::t=>if x=c then acc::sD c [] t else sD c (acc++[x]) t
def ej (c:UInt8)(s:aj):List aj:=sD c [] s
theorem jc4 {c}:∀ {s:aj} {acc:aj},c ∉ s->sD c acc s=[acc++s]
 | [],acc,_=>by simp[sD]
 |x::t,acc,h=>by
  have Y:x≠c:=fun e=>h (by simp[e]);have I:c ∉ t:=fun e=>h (by simp[e]);rw[sD,if_neg Y,jc4 I];simp
theorem jdc {c}:∀ {a b acc:aj},c ∉ a->sD c acc (a++c::b)=(acc++a)::ej c b
 | [],b,acc,_=>by simp[sD,ej]
 |x::t,b,acc,h=>by
  have Y:x≠c:=fun e=>h (by simp[e]);have I:c ∉ t:=fun e=>h (by simp[e]);rw[Ij,sD,if_neg Y,jdc I];simp
theorem sE {c s}(h:c ∉ s):ej c s=[s]:=jc4 h
theorem wm {c a b}(h:c ∉ a):ej c (a++c::b)=a::ej c b:=jdc h
theorem KI (c:UInt8)(s:aj):c ∉ s\/∃a b,s=a++c::b/\c ∉ a:=by
 by_cases h:c∈s
 .obtain⟨a,b,Y,I⟩:=List.eq_append_cons_of_mem h;exact .inr ⟨a,b,Y,I⟩
 .exact .inl h
theorem KJ {c:UInt8}{P:aj->Prop}(h0:∀s,c ∉ s->P s)(Y:∀a b,c ∉ a->P b->P (a++c::b)):∀(n:Nat) (s:aj),s.length<=n->P s
 |0,s,hn=>h0 s (by rw[List.length_eq_zero_iff.1 (by omega:s.length=0)];simp)
 |n+1,s,hn=>by
  rcases KI c s with h|⟨a,b,rfl,h⟩
  .exact h0 s h
  .exact Y a b h (KJ h0 Y n b (by simp only[Ix,Iy]at hn;omega))
theorem Ag (c:UInt8)(s:aj):ej c s≠[]:=by
 rcases KI c s with h|⟨a,b,rfl,h⟩
 .rw[sE h];simp
 .rw[wm h];simp
theorem XS (c:UInt8)(s:aj):(ej c s).length<=s.length+1:=by
 refine KJ (c:=c) (P:=fun s=>(ej c s).length<=s.length+1) ?_ ?_ s.length s (Ip _)
 .intro s h;rw[sE h];simp
 .intro a b h ih;rw[wm h];simp only[Ix,Iy];omega
theorem jpq (c:UInt8)(s:aj):Lib.join (ej c s) [c]=s:=by
 refine KJ (c:=c) (P:=fun s=>Lib.join (ej c s) [c]=s) ?_ ?_ s.length s (Ip _)
 .intro s h;rw[sE h,Lib.join_one]
 .intro a b h ih;rw[wm h]
  cases hb:ej c b with
  |nil=>exact absurd hb (Ag c b)
  |cons x r=>
   rw[hb]at ih;rw[Lib.join_cons];rw[Lib.join_cons]at ih;simp only[Lib.joinTail,List.map_cons,List.flatten_cons]at ih ⊢;rw[<-ih];simp
theorem q7q {c}:∀ {s:aj},c ∉ s->Lib.index s [c]=-1
 | [],_=>rfl
 |x::t,h=>by
  have Y:x≠c:=fun e=>h (by simp[e]);have I:c ∉ t:=fun e=>h (by simp[e])
  have hp:([c]:aj).isPrefixOf (x::t)=En:=by simp[Io,Ne.symm Y]
  rw[Lib.index,hp,q7q I];rfl
theorem q9n {c}:∀ {a b:aj},c ∉ a->Lib.index (a++c::b) [c]=(a.length:Int)
 | [],b,_=>by simp[Lib.index,Io]
 |x::t,b,h=>by
  have Y:x≠c:=fun e=>h (by simp[e]);have I:c ∉ t:=fun e=>h (by simp[e])
  have hp:([c]:aj).isPrefixOf (x::(t++c::b))=En:=by simp[Io,Ne.symm Y]
  have bN:((t.length:Int) == -1)=En:=by simp
  rw[Ij,Lib.index,hp,q9n I,bN];simp
theorem jdx {c}:∀ {s:aj},c ∉ s->Lib.indexByte s c=-1
 | [],_=>rfl
 |x::t,h=>by
  have Y:x≠c:=fun e=>h (by simp[e]);have I:c ∉ t:=fun e=>h (by simp[e]);rw[Lib.indexByte,if_neg (by simpa using Y),jdx I];rfl
theorem XT {c}:∀ {a b:aj},c ∉ a->Lib.indexByte (a++c::b) c=(a.length:Int)
 | [],b,_=>by simp[Lib.indexByte]
 |x::t,b,h=>by
  have Y:x≠c:=fun e=>h (by simp[e]);have I:c ∉ t:=fun e=>h (by simp[e])
  have bN:((t.length:Int) == -1)=En:=by simp
  rw[Ij,Lib.indexByte,if_neg (by simpa using Y),XT I,bN];simp
theorem jqk (c:UInt8)(s:aj):Lib.split s [c]=ej c s:=by
 refine KJ (c:=c) (P:=fun s=>Lib.split s [c]=ej c s) ?_ ?_ s.length s (Ip _)
 .intro s h;rw[sE h,Lib.split,Lib.count_miss (q7q h)];rfl
 .intro a b h ih;have hi:=q9n (b:=b) h
  have hd:(a++c::b).drop (a.length+1)=b:=by
   rw[show a++c::b=(a++[c])++b by simp,show a.length+1=(a++[c]).length by simp,List.drop_left]
  have hm:((a.length:Int) == -1)=En:=by simp
  rw[wm h,Lib.split,Lib.count_hit (by simp) hi];simp only[Ir,hd,Nat.add_comm 1];rw[Lib.splitK,hi,hm];simp only[If,if_false,Int.toNat_natCast,Nat.add_zero,Ir,hd];rw[List.take_left',<-ih]; · rfl
  .rfl
def GU (c:UInt8):aj->Nat->Int
 | [],_=>-1|b::l,n=>bif b == c then(n:Int)else GU c l (n+1)
theorem jc7 (c:UInt8):∀(l:aj) (n:Nat),GU c l n=if Lib.indexByte l c == -1 then -1 else Lib.indexByte l c+n
 | [],n=>rfl
 |b::l,n=>by
  have sZ:=Lib.indexByte_ge l c;rw[GU,Lib.indexByte,jc7 c l (n+1)]
  cases hb:(b == c)with
  |true=>simp
  |false=>
   simp only[cond_false,If,if_false];by_cases h:Lib.indexByte l c=-1
   .simp[h]
   .have Y:(Lib.indexByte l c == -1)=En:=by simpa using h
    have I:(Lib.indexByte l c+1 == -1)=En:=by simp;omega
    simp only[Y,I,If,if_false];omega
theorem q4w (c:UInt8)(l:aj):GU c l 0=Lib.indexByte l c:=by
 rw[jc7];by_cases h:Lib.indexByte l c=-1
 .simp[h]
 .have Y:(Lib.indexByte l c == -1)=En:=by simpa using h
  simp[Y]
def GV:Nat->Nat->aj->aj
 |0,_,acc=>acc|f+1,u,acc=>bif Ig u 10 then UInt8.ofNat (48+u)::acc else GV f (u / 10) (UInt8.ofNat (48+u % 10)::acc)
theorem XU:∀ (f u:Nat) (acc:aj),u<10^f->0<f->GV f u acc=Lib.decDigits u++acc
 |0,_,_,_,h=>by omega
 |f+1,u,acc,hu,_=>by
  rw[GV,Lib.decDigits];by_cases h:u<10
  .rw[Iu.mpr h];simp[h]
  .have hb:Ig u 10=En:=by
    cases hh:Ig u 10 with
    |false=>rfl|true=>exact absurd (Iu.mp hh) h
   have hf:0<f:=by
    rcases Nat.eq_zero_or_pos f with rfl|Y
    .simp at hu;omega
    .exact Y
   rw[hb,dif_neg h];simp only[cond_false];rw[XU f (u / 10) _ (by rw[Nat.pow_succ]at hu;omega) hf];simp
def GX:List AVal->ak aj
 | []=>Gb []
 | .str s::l=>match GX l with
  |some r=>Gb (s::r)|none=>H2
 |_=>H2
theorem q5i:∀ {l:List AVal} {r:List aj},GX l=Gb r->l=r.map .str
 | [],r,h=>by cases h;rfl
 | .str s::l,r,h=>by
  simp only[GX]at h;split at h
  .rename_i q hq;cases h;rw[q5i hq];rfl
  .cases h
 | .bool _::_,_,h | .int ..::_,_,h | .list ..::_,_,h | .ms ..::_,_,h | .ptr ..::_,_,h | .aq _::_,_,h | .bQ::_,_,h | .map _::_,_,h | .cg::_,_,h | .fn ..::_,_,h | .cx::_,_,h | .agg _::_,_,h | .aI _::_,_,h | .undef::_,_,h | .any::_,_,h | .az ..::_,_,h | .dW ..::_,_,h | .db _::_,_,h=>by cases h
def PF:List AVal->Option (AVal×Bool)
 | [.str s,.int .u8 (.ofNat c)]=>Gb (.int .i64 (GU (UInt8.ofNat c) s 0),En)|_=>H2
def KK:List AVal->Option (AVal×Bool)
 | [.str s,.str [c]]=>bif Ig s.length 4294967281 then Gb (.list En 1 ((ej c s).map .str),En)else H2|_=>H2
def t99:List AVal->Option (AVal×Bool)
 | [.list Hq 0 [],.str _]=>Gb (.str [],En)
 | [.list En 1 l,.str p]=>match GX l with
  |some (s::ss)=>bif Ii (s::ss).length 100000&&Ii (p.intercalate (s::ss)).length 100000000 then Gb (.str (p.intercalate (s::ss)),En)else H2|_=>H2
 |_=>H2
def Ah:List AVal->Option (AVal×Bool)
 | [.int .i64 (.ofNat n)]=>bif Ig n 1000000000000000000 then Gb (.str (GV 18 n []),En)else H2|_=>H2
def KL:List AVal->Option (AVal×Bool)
 | [.str s,.int .i64 (.ofNat c)]=>bif Ii c 100000&&Ii (s.length*c) 100000 then Gb (.str (Lib.repeatL s c),En)else H2|_=>H2
theorem jtw {args v o}(h:PF args=Gb (v,o)):IsoCall Tryz.prog 256 args v o:=by
 unfold PF at h;split at h
 .rename_i s c;cases h;rw[q4w];exact q5w (s:=s) (c:=Int.ofNat c)
 .cases h
theorem jr8 {args v o}(h:KK args=Gb (v,o)):IsoCall Tryz.prog 19 args v o:=by
 unfold KK at h;split at h
 .rename_i s c
  cases hl:Ig s.length 4294967281 with
  |false=>rw[hl]at h;cases h
  |true=>
   rw[hl]at h;cases h;have:=jjz (s:=s) (p:=[c]) (Iu.mp hl) (by simp)
   have e:(Lib.splitB ⟨⟨[c]⟩⟩ 0 (Lib.countB ⟨⟨s⟩⟩ ⟨⟨[c]⟩⟩) ⟨⟨s⟩⟩).map (fun x=>AVal.str x.data.toList)=(ej c s).map .str:=by
    rw[<-jqk]
    have e2:(Lib.splitB ⟨⟨[c]⟩⟩ 0 (Lib.countB ⟨⟨s⟩⟩ ⟨⟨[c]⟩⟩) ⟨⟨s⟩⟩).map (·.data.toList)=Lib.split s [c]:=by
     rw[Lib.splitB_data];rfl
    rw[<-e2,I0];rfl
   rw[e]at this;exact this
 .cases h
theorem jyn {args v o}(h:t99 args=Gb (v,o)):IsoCall Tryz.prog 47 args v o:=by
 unfold t99 at h;split at h
 .cases h;exact q53
 .rename_i l p;split at h
  .rename_i s ss hq
   cases hk:(Ii (s::ss).length 100000&&Ii (p.intercalate (s::ss)).length 100000000)with
   |false=>rw[hk]at h;cases h
   |true=>
    rw[hk]at h;cases h;simp only[Gd]at hk;have Y:=Hb hk.1;have I:=Hb hk.2;rw[q5i hq];exact joe (ss:=s::ss) (p:=p) (by simp) (by omega) (by show(p.intercalate (s::ss)).length<=_;omega)
  .cases h
 .cases h
theorem jdu {args v o}(h:Ah args=Gb (v,o)):IsoCall Tryz.prog 43 args v o:=by
 unfold Ah at h;split at h
 .rename_i n
  cases hk:Ig n 1000000000000000000 with
  |false=>rw[hk]at h;cases h
  |true=>
   rw[hk]at h;cases h;have hn:=Iu.mp hk;have:=jnp (n:=Int.ofNat n) (by simp<;>omega) (by simp<;>omega)
   have e:Lib.itoa (Int.ofNat n)=GV 18 n []:=by
    rw[XU 18 n [] (by omega) (by omega),List.append_nil];unfold Lib.itoa;rw[if_neg (by simp)];rfl
   rw[e]at this;exact this
 .cases h
theorem jt5 {args v o}(h:KL args=Gb (v,o)):IsoCall Tryz.prog 211 args v o:=by
 unfold KL at h;split at h
 .rename_i s c
  cases hk:(Ii c 100000&&Ii (s.length*c) 100000)with
  |false=>rw[hk]at h;cases h
  |true=>
   rw[hk]at h;cases h;simp only[Gd]at hk;have Y:=Hb hk.1;have I:=Hb hk.2;exact jf4 (s:=s) (c:=c) (by omega) (by omega)
 .cases h
theorem jh7 {k f}(h:Is k f):Abs.Enters Tryz.prog k:=by
 obtain⟨fn,hh,Y,I⟩:=h;obtain⟨c,g1,g2,g3,g4,g5⟩:=U9 I;exact⟨fn,Y,g5,by rw[g1];rfl⟩
theorem vb {k}(h:(tree.find k).isSome=Hq):Abs.Enters Tryz.prog k:=by
 obtain⟨f,hf⟩:=Option.isSome_iff_exists.1 h;exact jh7 (bP.gN all hf)
def KM:AO:=fun k=>bif Ha k 256 then Gb PF else bif Ha k 19 then Gb KK else bif Ha k 47 then Gb t99 else bif Ha k 43 then Gb Ah else bif Ha k 211 then Gb KL else H2
def GY (args:List AVal)(h:qh):Option (AVal×Bool×qh):=bif qp 0 args then(match Ah args with
 |some (v,_)=>Gb (v,En,h)
 |none=>H2)else H2
def XV:ji5:=fun k=>bif Ha k 43 then Gb GY else H2
def isL (k:Nat):Bool:=Ha k 256||Ha k 19||Ha k 47||Ha k 43||Ha k 211
def dS:j8:={ br:=fun k=>bif isL k then H2 else XW.br k,cD:=KM,cH:=XV,maps:=KN }
theorem jtl {args h v o h'}(hq:GY args h=Gb (v,o,h')):Bn Tryz.prog 43 args h v o h':=by
 unfold GY at hq
 cases hb:qp 0 args with
 |false=>rw[hb]at hq;cases hq
 |true=>
  rw[hb]at hq;simp only[cond_true]at hq;split at hq
  .rename_i v' o' ht;cases hq
   have hv:mC v=Hq:=by
    unfold Ah at ht;split at ht
    .rename_i n
     cases hk:Ig n 1000000000000000000 with
     |false=>rw[hk]at ht;cases ht|true=>rw[hk]at ht;cases ht;rfl
    .cases ht
   exact(jdu ht).shr hb hv h
  .cases hq
theorem TY:∀ (t:List (Nat×List Row)),(t.all fun p=>(tree.find p.1).isSome)=Hq->∀k l,yG t k=Gb l->(tree.find k).isSome=Hq
 |(j,m)::t,h,k,l,hk=>by
  simp only[List.all_cons,Gd]at h;simp only[yG,Hc]at hk;split at hk
  .next hb=>rw[<-Ga hb];exact h.1
  .exact TY t h.2 k l hk
theorem tV:b8 Tryz.prog pr:=okM T2
theorem dU:b8 Tryz.prog dS where
 fn:=by
  intro k f hf;simp only[dS,Hc]at hf;split at hf
  .cases hf
  .exact(okW T2).fn k f hf
 gd:=by
  intro k f hf;simp only[dS,KM,Hc]at hf;split at hf
  .next hb=>cases hf;obtain rfl:=Ga hb;exact⟨vb (k:=256) (by kernel_rfl),fun args v o h _ _=>jtw h⟩
  split at hf
  .next hb=>cases hf;obtain rfl:=Ga hb;exact⟨vb (k:=19) (by kernel_rfl),fun args v o h _ _=>jr8 h⟩
  split at hf
  .next hb=>cases hf;obtain rfl:=Ga hb;exact⟨vb (k:=47) (by kernel_rfl),fun args v o h _ _=>jyn h⟩
  split at hf
  .next hb=>cases hf;obtain rfl:=Ga hb;exact⟨vb (k:=43) (by kernel_rfl),fun args v o h _ _=>jdu h⟩
  split at hf
  .next hb=>cases hf;obtain rfl:=Ga hb;exact⟨vb (k:=211) (by kernel_rfl),fun args v o h _ _=>jt5 h⟩
  .cases hf
 mixed:=tV.mixed
 fa:=by
  intro k f hf;simp only[dS,XV,Hc]at hf;split at hf
  .next hb=>cases hf;obtain rfl:=Ga hb;exact⟨vb (k:=43) (by kernel_rfl),fun args h v o h' hq=>jtl hq⟩
  .cases hf
 maps:=tV.maps
end Go.Z
namespace Go.Z
open Go Go.Abs Go.Proofs
def GZ:AVal->AVal->Bool
 | .fn (.func a) [] [],.fn (.func b) [] []=>Ha a b| .cx,.cx=>Hq| .az a b c,.az a' b' c'=>Ha a a'&&(Ha b b'&&Ha c c')| .ptr a b,.ptr a' b'=>Ha a a'&&Ha b b'|a,b=>jW a b
theorem PG {a b}(h:GZ a b=Hq):a=b:=by
 unfold GZ at h;split at h
 .rw[Ga h]
 .rfl
 .simp only[Gd]at h;rw[Ga h.1,Ga h.2.1,Ga h.2.2]
 .simp only[Gd]at h;rw[Ga h.1,Ga h.2]
 .exact q4o h
def KO:List AVal->List AVal->Bool
 | [],[]=>Hq|a::l,b::m=>GZ a b&&KO l m|_,_=>En
theorem XX:∀ {l m:List AVal},KO l m=Hq->l=m
 | [],[],_=>rfl
 |a::l,b::m,h=>by
  simp only[KO,Gd]at h;rw[PG h.1,XX h.2]
 | [],_::_,h=>by cases h
 |_::_,[],h=>by cases h
def XY:AVal->AVal->Bool
 | .agg l,.agg m=>KO l m|a,b=>GZ a b
theorem jk3 {a b}(h:XY a b=Hq):a=b:=by
 unfold XY at h;split at h
 .rw[XX h]
 .exact PG h
def PH:List (AVal×Bool)->List (AVal×Bool)->Bool
 | [],[]=>Hq|(a,o)::l,(b,q)::m=>GZ a b&&((o == q)&&PH l m)|_,_=>En
theorem q0k:∀ {l m:List (AVal×Bool)},PH l m=Hq->l=m
 | [],[],_=>rfl
 |(a,o)::l,(b,q)::m,h=>by
  simp only[PH,Gd,beq_iff_eq]at h;rw[PG h.1,h.2.1,q0k h.2.2]
 | [],_::_,h=>by cases h
 |_::_,[],h=>by cases h
def PI:List (AVal×AVal)->List (AVal×AVal)->Bool
 | [],[]=>Hq|(a,o)::l,(b,q)::m=>GZ a b&&(XY o q&&PI l m)|_,_=>En
theorem qyj:∀ {l m:List (AVal×AVal)},PI l m=Hq->l=m
 | [],[],_=>rfl
 |(a,o)::l,(b,q)::m,h=>by
  simp only[PI,Gd]at h;rw[PG h.1,jk3 h.2.1,qyj h.2.2]
 | [],_::_,h=>by cases h
 |_::_,[],h=>by cases h
def XZ:aM->aM->Bool
 | .hole,.hole=>Hq| .dead,.dead=>Hq| .cells l,.cells m=>PH l m| .map l,.map m=>PI l m| .vec a b l,.vec a' b' m=>Ha a a'&&(Ha b b'&&vE l m)|_,_=>En
theorem jff {a b}(h:XZ a b=Hq):a=b:=by
 unfold XZ at h;split at h
 .rfl
 .rfl
 .rw[q0k h]
 .rw[qyj h]
 .simp only[Gd]at h;rw[Ga h.1,Ga h.2.1,Gf h.2.2]
 .cases h
def PJ:qh->qh->Bool
 | [],[]=>Hq|a::l,b::m=>XZ a b&&PJ l m|_,_=>En
theorem q0y:∀ {l m:qh},PJ l m=Hq->l=m
 | [],[],_=>rfl
 |a::l,b::m,h=>by
  simp only[PJ,Gd]at h;rw[jff h.1,q0y h.2]
 | [],_::_,h=>by cases h
 |_::_,[],h=>by cases h
abbrev kg:=List AVal×qh×AVal×Bool×qh
def NG (args:List AVal)(h:qh):List kg->Option (AVal×Bool×qh)
 | []=>H2|r::l=>bif KO args r.1&&PJ h r.2.1 then Gb r.2.2 else NG args h l
theorem q5j {args h x}:∀ {l:List kg},NG args h l=Gb x->(args,h,x)∈l
 | [],h=>by cases h
 |r::l,M=>by
  simp only[NG,Hc]at M;split at M
  .next hb=>
   simp only[Gd]at hb;cases M;rw[XX hb.1,q0y hb.2];exact List.mem_cons_self ..
  .exact List.mem_cons_of_mem _ (q5j M)
def TV (P:Program)(k:Nat):List kg->Prop
 | []=>True|r::l=>Bn P k r.1 r.2.1 r.2.2.1 r.2.2.2.1 r.2.2.2.2/\TV P k l
theorem ja2 {P k}:∀ {l:List kg},TV P k l->∀r∈l,Bn P k r.1 r.2.1 r.2.2.1 r.2.2.2.1 r.2.2.2.2
 |r::l,h,x,M=>by
  cases M with
  |head=>exact h.1|tail _ M=>exact ja2 h.2 x M
theorem j0 {P p}(hp:b8 P p){n k args h h' v o}(Q:ai p (jJ p n) k args h=Gb (v,o,h')):Bn P k args h v o h':=
 (I8 hp (cL.JA (Ox hp n).1) (by rw[<-OC];exact Q)).2
end Go.Z
namespace Go.Z
open Go Go.Abs Go.Proofs
abbrev xL:=jJ dS 1000
def gB:AVal:=.list Hq 0 []
def ek:aM:=.cells [(gB,En),(gB,En),(.az 2 0 1,En)]
def cR:AVal:=.int .i64 0
def Ai:AVal:=.agg [cR,gB,gB,gB]
def iY:AVal:=.int .i64 1
def KP:AVal:=.str [99,111,110,101,95,49]
def PK:AVal:=.str [99,111,110,101]
def Cm:AVal:=.int .i64 10
def wo:AVal:=.bool En
def xv9:AVal:=.agg [KP,PK,Cm,Cm,wo]
def X0:AVal:=.agg [iY,.list En 5 [xv9],gB,gB]
def lv1:List AVal:=[Ai,X0]
def jww:AVal:=.str [108,111,116]
def lv2:List AVal:=[KP,PK]
def PL:AVal:=.agg [iY,jww,.list En 1 lv2,.list En 1 [iY,Cm],.str []]
def bv2:aM:=.vec 5 0 [PL]
def bv3:aM:=.cells [(.az 7 1 2,En),(.az 5 1 2,En),(.az 2 2 3,En)]
def G0:AVal:=.str [99,111,105,108,95,49]
def PN:AVal:=.str [99,111,105,108]
def G1:AVal:=.int .i64 5
def jw3:AVal:=.agg [G0,PN,G1,G1,wo]
def Cn:AVal:=.list En 5 [xv9,jw3]
def X2:AVal:=.agg [iY,Cn,gB,gB]
def lv3:List AVal:=lv1++[X2]
def bv4:aM:=.vec 4 2 lv3
def xM:AVal:=.int .i64 2
def lv4:List AVal:=[G0,PN]
def X3:AVal:=.agg [xM,jww,.list En 1 lv4,.list En 1 [iY,G1],.str []]
def lv5:List AVal:=[PL,X3]
def PO:aM:=.vec 5 1 lv5
def bv6:aM:=.cells [(.az 7 2 3,En),(.az 5 2 3,En),(.az 2 3 4,En)]
def wu:AVal:=.str [98,111,120]
def X4:AVal:=.agg [iY,Cn,.list En 4 [.agg [wu,gB,gB,gB]],gB]
def lv6:List AVal:=lv3++[X4]
def bv7:aM:=.vec 4 3 lv6
def tW:AVal:=.int .i64 3
def zd7:AVal:=.str [112,114,111,100,117,99,116]
def X5:AVal:=.list En 1 [wu]
def X6:AVal:=.agg [tW,zd7,X5,.list En 1 [iY],.str []]
def lv7:List AVal:=lv5++[X6]
def PP:aM:=.vec 5 2 lv7
def bv9:aM:=.cells [(.az 7 3 4,En),(.az 5 3 4,En),(.az 2 4 5,En)]
def jya:AVal:=.agg [PK,xM]
def X7:AVal:=.agg [iY,Cn,.list En 4 [.agg [wu,.list En 2 [jya],gB,gB]],gB]
def lv8:List AVal:=lv6++[X7]
def j0r:aM:=.vec 4 4 lv8
def X8:AVal:=.int .i64 4
def j18:AVal:=.str [110,101,101,100]
def X9:AVal:=.agg [X8,j18,.list En 1 [wu,PK],.list En 1 [iY,xM],.str []]
def lv9:List AVal:=lv7++[X9]
def PQ:aM:=.vec 5 3 lv9
def jyl:aM:=.cells [(.az 7 4 5,En),(.az 5 4 5,En),(.az 2 5 6,En)]
def Ya:AVal:=.list En 2 [jya,.agg [PN,iY]]
def Yb:AVal:=.agg [iY,Cn,.list En 4 [.agg [wu,Ya,gB,gB]],gB]
def j0d:List AVal:=lv8++[Yb]
def jzl:aM:=.vec 4 5 j0d
def Yc:AVal:=.agg [G1,j18,.list En 1 [wu,PN],.list En 1 [iY,iY],.str []]
def j1q:List AVal:=lv9++[Yc]
def PR:aM:=.vec 5 4 j1q
def j09:aM:=.cells [(.az 7 5 6,En),(.az 5 5 6,En),(.az 2 6 7,En)]
def zhx:List AVal:=[wu,Ya]
def KQ:AVal:=.str [115,119,101,101,112]
def jyf:AVal:=.int .i64 80
def jzz:AVal:=.int .i64 90
def jyx:AVal:=.list En 3 [.agg [KQ,jyf,jzz]]
def Yd:List AVal:=zhx++[jyx]
def Ye:AVal:=.agg [iY,Cn,.list En 4 [.agg ((Yd++[gB]))],gB]
def j3s:List AVal:=j0d++[Ye]
def j3b:aM:=.vec 4 6 j3s
def jxe:AVal:=.int .i64 6
def zks:AVal:=.str [116,101,115,116]
def Yf:AVal:=.agg [jxe,zks,.list En 1 [wu,KQ],.list En 1 [iY,jyf,jzz],.str []]
def j2i:List AVal:=j1q++[Yf]
def PS:aM:=.vec 5 5 j2i
def jwv:aM:=.cells [(.az 7 6 7,En),(.az 5 6 7,En),(.az 2 7 8,En)]
def Yg:AVal:=.agg [Ya,jyx]
def KR:AVal:=.list En 4 [.agg ((Yd++[.list En 2 [Yg]]))]
def Yh:AVal:=.agg [xM,Cn,KR,gB]
def jy9:List AVal:=j3s++[Yh]
def jwo:aM:=.vec 4 7 jy9
def jyz:AVal:=.int .i64 7
def j3m:AVal:=.str [105,115,115,117,101]
def Yi:AVal:=.agg [jyz,j3m,X5,.list En 1 [xM],.str []]
def jy2:List AVal:=j2i++[Yi]
def PT:aM:=.vec 5 6 jy2
def jwi:aM:=.cells [(.az 7 7 8,En),(.az 5 7 8,En),(.az 2 8 9,En)]
def Co:AVal:=.str [117,49]
def Yj:AVal:=.agg [tW,Cn,KR,.list En 8 [.agg [Co,wu,iY,gB,gB,.str [],wo,cR]]]
def jwr:List AVal:=jy9++[Yj]
def jxq:aM:=.vec 4 8 jwr
def Yk:AVal:=.int .i64 8
def zk9:AVal:=.str [98,117,105,108,100]
def Cp:List AVal:=[Co,wu]
def tX:AVal:=.list En 1 [tW]
def Yl:AVal:=.agg [Yk,zk9,.list En 1 Cp,tX,.str []]
def jyt:List AVal:=jy2++[Yl]
def PU:aM:=.vec 5 7 jyt
def jzp:aM:=.cells [(.az 7 8 9,En),(.az 5 8 9,En),(.az 2 9 10,En)]
def Ym:AVal:=.agg ((lv2++[Cm,Yk,wo]))
def j2n:AVal:=.agg [KP,xM]
def PV:AVal:=.agg [tW,.list En 5 [Ym,jw3],KR,.list En 8 [.agg ((Cp++[iY,.list En 2 [j2n],gB,.str [],wo,cR]))]]
def jxj:List AVal:=jwr++[PV]
def jz6:aM:=.vec 4 9 jxj
def j0f:AVal:=.int .i64 9
def Yn:AVal:=.str [117,115,101]
def jz0:AVal:=.list En 1 [Co,KP]
def Yo:AVal:=.agg [j0f,Yn,jz0,.list En 1 [tW,xM],.str []]
def j1b:List AVal:=jyt++[Yo]
def PW:aM:=.vec 5 8 j1b
def Yp:aM:=.cells [(.az 7 9 10,En),(.az 5 9 10,En),(.az 2 10 11,En)]
def zk8:List AVal:=lv4++[G1]
def jzs:List AVal:=zk8++[X8]
def jze:List AVal:=[tW,.list En 5 [Ym,.agg ((jzs++[wo]))]]
def PX:List AVal:=jze++[KR]
def KS:AVal:=.list En 2 [j2n,.agg [G0,iY]]
def PY:AVal:=.agg ((PX++[.list En 8 [.agg ((Cp++[iY,KS,gB,.str [],wo,cR]))]]))
def jw9:List AVal:=jxj++[PY]
def Yq:aM:=.vec 4 10 jw9
def jy0:AVal:=.list En 1 [tW,iY]
def Yr:AVal:=.agg [Cm,Yn,.list En 1 [Co,G0],jy0,.str []]
def jx7:List AVal:=j1b++[Yr]
def G2:aM:=.vec 5 9 jx7
def Ys:aM:=.cells [(.az 7 10 11,En),(.az 5 10 11,En),(.az 2 11 12,En)]
def j1s:List AVal:=[KQ,iY]
def jyg:AVal:=.int .i64 85
def j1m:AVal:=.agg ((j1s++[jyg]))
def Yt:AVal:=.list En 3 [j1m]
def Yu:AVal:=.list En 8 [.agg ((Cp++[iY,KS,Yt,.str [],wo,cR]))]
def G3:AVal:=.agg ((PX++[Yu]))
def KT:List AVal:=jw9++[G3]
def Yv:aM:=.vec 4 11 KT
def Yw:AVal:=.int .i64 11
def j2b:AVal:=.str [109,101,97,115,117,114,101]
def j1i:AVal:=.list En 1 [Co,KQ]
def Yx:AVal:=.agg [Yw,j2b,j1i,.list En 1 [tW,jyg],.str []]
def KU:List AVal:=jx7++[Yx]
def G4:aM:=.vec 5 10 KU
def Yy:aM:=.cells [(.az 7 11 12,En),(.az 5 11 12,En),(.az 2 12 13,En)]
def jzw:AVal:=.bool Hq
def Yz:AVal:=.agg [tW,.list En 5 [Ym,.agg ((jzs++[jzw]))],KR,Yu]
def KW:aM:=.vec 4 12 ((KT++[Yz]))
def j1o:AVal:=.int .i64 12
def zjq:AVal:=.str [104,111,108,100]
def j3o:AVal:=.list En 1 [G0]
def YA:AVal:=.agg [j1o,zjq,j3o,tX,.str []]
def jz5:List AVal:=KU++[YA]
def Aj:aM:=.vec 5 11 jz5
def j0n:aM:=.cells [(.az 7 12 13,En),(.az 5 11 11,En),(.az 2 12 12,En)]
def YB:AVal:=.int .i64 13
def KX:AVal:=.str [117,110,100,111]
def PZ:AVal:=.list En 1 []
def j12:AVal:=.agg [YB,KX,PZ,gB,.str []]
def j2p:List AVal:=jz5++[j12]
def j0p:aM:=.vec 5 12 j2p
def jx9:aM:=.cells [(.az 7 13 14,En),(.az 5 12 12,En),(.az 2 13 13,En)]
def j10:List AVal:=jze++[.list En 4 [.agg ((Yd++[.list En 2 [Yg,Yg]]))]]
def P0:AVal:=.agg ((j10++[Yu]))
def jyw:List AVal:=KT++[P0]
def j0s:aM:=.vec 4 13 jyw
def jzm:AVal:=.int .i64 14
def P1:AVal:=.agg [jzm,j3m,X5,tX,.str []]
def jx4:List AVal:=KU++[P1]
def j0x:aM:=.vec 5 12 jx4
def jys:List AVal:=j2p++[P1]
def jyu:aM:=.vec 5 13 jys
def j1p:aM:=.cells [(.az 7 14 15,En),(.az 5 13 13,En),(.az 2 14 14,En)]
def YC:AVal:=.agg ((j10++[.list En 8 [.agg ((Cp++[xM,KS,Yt,.str [],wo,cR]))]]))
def G5:aM:=.vec 4 14 ((jyw++[YC]))
def YD:AVal:=.int .i64 15
def zkw:AVal:=.str [117,112,100,97,116,101]
def wv:AVal:=.list En 1 [Co]
def P2:AVal:=.agg [YD,zkw,wv,tX,.str []]
def G6:aM:=.vec 5 13 ((jx4++[P2]))
def j1c:List AVal:=jys++[P2]
def j2z:aM:=.vec 5 14 j1c
def jzn:aM:=.cells [(.az 7 15 16,En),(.az 5 13 12,En),(.az 2 14 13,En)]
def YE:AVal:=.int .i64 16
def jx5:AVal:=.agg [YE,KX,PZ,gB,.str []]
def jyj:List AVal:=j1c++[jx5]
def j13:aM:=.vec 5 15 jyj
def jwp:aM:=.cells [(.az 7 16 17,En),(.az 5 13 11,En),(.az 2 14 12,En)]
def j17:AVal:=.int .i64 17
def jyv:AVal:=.agg [j17,KX,PZ,gB,.str []]
def j0g:List AVal:=jyj++[jyv]
def jx0:aM:=.vec 5 16 j0g
def j1j:aM:=.cells [(.az 7 17 18,En),(.az 5 14 12,En),(.az 2 15 13,En)]
def jw4:AVal:=.int .i64 91
def YF:AVal:=.agg ((PX++[.list En 8 [.agg ((Cp++[iY,KS,.list En 3 [j1m,.agg ((j1s++[jw4]))],.str [],wo,cR]))]]))
def KY:aM:=.vec 4 15 ((KT++[YF]))
def jxx:AVal:=.int .i64 18
def P3:AVal:=.agg [jxx,j2b,j1i,.list En 1 [tW,jw4],.str []]
def KZ:aM:=.vec 5 14 ((KU++[P3]))
def jwu:List AVal:=j0g++[P3]
def j02:aM:=.vec 5 17 jwu
def YG:aM:=.cells [(.az 7 18 19,En),(.az 5 14 11,En),(.az 2 15 12,En)]
def P4:AVal:=.int .i64 19
def jrl:AVal:=.agg [P4,KX,PZ,gB,.str []]
def jxi:List AVal:=jwu++[jrl]
def YH:aM:=.vec 5 18 jxi
def YI:aM:=.cells [(.az 7 19 20,En),(.az 5 15 12,En),(.az 2 16 13,En)]
def YJ:AVal:=.agg ((PX++[.list En 8 [.agg ((Cp++[iY,KS,Yt,.str [],jzw,cR]))]]))
def YK:aM:=.vec 4 16 ((KT++[YJ]))
def YL:AVal:=.int .i64 20
def Cq:AVal:=.str [115,104,105,112]
def P5:AVal:=.agg [YL,Cq,wv,tX,.str []]
def YM:aM:=.vec 5 15 ((KU++[P5]))
def jzf:List AVal:=jxi++[P5]
def YN:aM:=.vec 5 19 jzf
def j53:AVal:=.agg [Cm,Cq,wv,tX,.str []]
def j8m:AVal:=.agg [Yw,Cq,wv,tX,.str []]
def jrq:AVal:=.int .i64 31
def YO:AVal:=.aI [Ai,jrq]
def j99:AVal:=.agg [YB,Cq,wv,tX,.str []]
def jry:AVal:=.int .i64 34
def zaa:AVal:=.agg [YD,Cq,wv,tX,.str []]
def jrp:AVal:=.int .i64 32
def j7w:AVal:=.agg [YE,Cq,wv,tX,.str []]
def j7k:AVal:=.agg [P4,Cq,wv,tX,.str []]
def YP:AVal:=.int .i64 21
def j7j:AVal:=.agg [YP,Yn,jz0,jy0,.str []]
def YQ:AVal:=.list En 5 jzf
def Cr:List AVal:=[.ptr 0 0,.str [115,104,105,112,32,117,49,32,51]]
def YR:AVal:=.aI [.str [],jrq]
def j1v:List AVal:=[.ptr 0 0,.str [109,105,115,115,105,110,103,32,117,49]]
def jrx:AVal:=.aI [.str [110,111,110,101],cR]
def jxl:List AVal:=[.ptr 0 0,.str [115,116,111,99,107,32,99,111,105,108]]
def K0:List AVal:=[.ptr 0 0,KX]
def jyi:List AVal:=[.ptr 0 0,.str [115,104,105,112,112,101,100]]
def hw1:qh:=[ek,ek,.vec 4 0 [Ai]]
def hw2:qh:=[.cells [(.az 7 0 1,En),(.az 5 0 1,En),(.az 2 1 2,En)],ek,.vec 4 1 lv1,.map jq,.map jc,bv2,.hole,bv2]
def hw3:qh:=[bv3,ek,bv4,.map jq,.map jc,PO,.hole,PO,.map jq,.map jc]
def hw4:qh:=[bv3,ek,bv4,.map jq,.map jc,PO,.hole,PO]
def hw5:qh:=[bv6,ek,bv7,.map jq,.map jc,PP,.hole,PP,.map jq,.map jc]
def hw6:qh:=[bv6,ek,bv7,.map jq,.map jc,PP,.hole,PP]
def hw7:qh:=[bv9,ek,j0r,.map jq,.map jc,PQ,.hole,PQ,.map jq,.map jc]
def hw8:qh:=[bv9,ek,j0r,.map jq,.map jc,PQ,.hole,PQ]
def hw9:qh:=[jyl,ek,jzl,.map jq,.map jc,PR,.hole,PR,.map jq,.map jc]
def zk3:qh:=[jyl,ek,jzl,.map jq,.map jc,PR,.hole,PR]
def zkx:qh:=[j09,ek,j3b,.map jq,.map jc,PS,.hole,PS,.map jq,.map jc]
def zk1:qh:=[j09,ek,j3b,.map jq,.map jc,PS,.hole,PS]
def zg4:qh:=[jwv,ek,jwo,.map jq,.map jc,PT,.hole,PT,.map jq,.map jc]
def zec:qh:=[jwv,ek,jwo,.map jq,.map jc,PT,.hole,PT]
def zdd:qh:=[jwi,ek,jxq,.map jq,.map jc,PU,.hole,PU,.map jq,.map jc]
def zh9:qh:=[jwi,ek,jxq,.map jq,.map jc,PU,.hole,PU]
def jxa:qh:=[jzp,ek,jz6,.map jq,.map jc,PW,.hole,PW,.map jq,.map jc]
def jwn:qh:=[jzp,ek,jz6,.map jq,.map jc,PW,.hole,PW]
def j1f:qh:=[Yp,ek,Yq,.map jq,.map jc,G2,.hole,G2,.map jq,.map jc]
def YS:qh:=[Yp,ek,Yq,.map jq,.map jc,G2,.hole,G2]
def zdx:qh:=[Yp,ek,Yq,.map jq,.map jc,G2,.hole,G2,.map jq]
def zio:qh:=[Ys,ek,Yv,.map jq,.map jc,G4,.hole,G4,.map jq,.map jc]
def jx6:qh:=[Ys,ek,Yv,.map jq,.map jc,G4,.hole,G4]
def zh3:qh:=[Ys,ek,Yv,.map jq,.map jc,G4,.hole,G4,.map jq]
def jxd:qh:=[Yy,ek,KW,.map jq,.map jc,Aj,.hole,Aj,.map jq,.map jc]
def YT:qh:=[Yy,ek,KW,.map jq,.map jc,Aj,.hole,Aj]
def zie:qh:=[Yy,ek,KW,.map jq,.map jc,Aj,.hole,Aj,.map jq]
def zeo:qh:=[j0n,ek,KW,.map jq,.map jc,Aj,.hole,j0p,.map jq,.map jc]
def zk5:qh:=[j0n,ek,KW,.map jq,.map jc,Aj,.hole,j0p]
def j1r:qh:=[jx9,ek,j0s,.map jq,.map jc,j0x,.hole,jyu,.map jq,.map jc]
def jy1:qh:=[jx9,ek,j0s,.map jq,.map jc,j0x,.hole,jyu]
def jyr:qh:=[j1p,ek,G5,.map jq,.map jc,G6,.hole,j2z,.map jq,.map jc]
def jzc:qh:=[j1p,ek,G5,.map jq,.map jc,G6,.hole,j2z]
def zfa:qh:=[jzn,ek,G5,.map jq,.map jc,G6,.hole,j13,.map jq,.map jc]
def zhk:qh:=[jzn,ek,G5,.map jq,.map jc,G6,.hole,j13]
def zj4:qh:=[jwp,ek,G5,.map jq,.map jc,G6,.hole,jx0,.map jq,.map jc]
def zic:qh:=[jwp,ek,G5,.map jq,.map jc,G6,.hole,jx0]
def j2v:qh:=[j1j,ek,KY,.map jq,.map jc,KZ,.hole,j02,.map jq,.map jc]
def jz9:qh:=[j1j,ek,KY,.map jq,.map jc,KZ,.hole,j02]
def zd0:qh:=[YG,ek,KY,.map jq,.map jc,KZ,.hole,YH,.map jq,.map jc]
def K1:qh:=[YG,ek,KY,.map jq,.map jc,KZ,.hole,YH]
def P6:qh:=[YG,ek,KY,.map jq,.map jc,KZ,.hole,YH,.map jq]
def YU:qh:=[YI,ek,YK,.map jq,.map jc,YM,.hole,YN,.map jq,.map jc]
def YV:qh:=[YI,ek,YK,.map jq,.map jc,YM,.hole,YN]
def zkl:qh:=[YI,ek,YK,.map jq,.map jc,YM,.hole,YN,.map jq]
def e3:Row:=([Ai,PL],.aI [X0,cR],En)
def e6:Row:=([X0,X3],.aI [X2,cR],En)
def e9:Row:=([X2,X6],.aI [X4,cR],En)
def YW:Row:=([X4,X9],.aI [X7,cR],En)
def YX:Row:=([X7,Yc],.aI [Yb,cR],En)
def YY:Row:=([Yb,Yf],.aI [Ye,cR],En)
def YZ:Row:=([Ye,Yi],.aI [Yh,cR],En)
def Y0:Row:=([Yh,Yl],.aI [Yj,cR],En)
def Y1:Row:=([Yj,Yo],.aI [PV,cR],En)
def Y2:Row:=([PV,j53],.aI [Ai,YL],En)
def Y3:Row:=([PV,Yr],.aI [PY,cR],En)
def Y4:Row:=([PY,j8m],YO,En)
def Y5:Row:=([PY,Yx],.aI [G3,cR],En)
def Y6:Row:=([G3,YA],.aI [Yz,cR],En)
def Y7:Row:=([Yz,j99],.aI [Ai,jry],En)
def Y8:Row:=([G3,P1],.aI [P0,cR],En)
def Y9:Row:=([P0,zaa],.aI [Ai,jrp],En)
def Za:Row:=([P0,P2],.aI [YC,cR],En)
def Zb:Row:=([YC,j7w],YO,En)
def Zc:Row:=([G3,P3],.aI [YF,cR],En)
def Zd:Row:=([YF,j7k],YO,En)
def Ze:Row:=([G3,P5],.aI [YJ,cR],En)
def Zf:Row:=([YJ,j7j],.aI [Ai,YP],En)
def Zg:Row:=([.str [49,32,108,111,116,32,99,111,110,101,95,49,32,99,111,110,101,32,49,32,49,48,35,51,57,56,57,49,56,50],cR],.aI [PL,cR],En)
def Zh:Row:=([.str [50,32,108,111,116,32,99,111,105,108,95,49,32,99,111,105,108,32,49,32,53,35,48,49,55,50,54,57,55],iY],.aI [X3,cR],En)
def Zi:Row:=([.str [51,32,112,114,111,100,117,99,116,32,98,111,120,32,49,35,54,49,49,52,48,56,52],xM],.aI [X6,cR],En)
def Zj:Row:=([.str [52,32,110,101,101,100,32,98,111,120,32,99,111,110,101,32,49,32,50,35,49,55,56,55,50,51,49],tW],.aI [X9,cR],En)
def Zk:Row:=([.str [53,32,110,101,101,100,32,98,111,120,32,99,111,105,108,32,49,32,49,35,50,52,55,55,51,52,50],X8],.aI [Yc,cR],En)
def Zl:Row:=([.str [54,32,116,101,115,116,32,98,111,120,32,115,119,101,101,112,32,49,32,56,48,32,57,48,35,50,48,50,49,51,55,56],G1],.aI [Yf,cR],En)
def Zm:Row:=([.str [55,32,105,115,115,117,101,32,98,111,120,32,50,35,57,55,57,50,54,57,53],jxe],.aI [Yi,cR],En)
def Zn:Row:=([.str [56,32,98,117,105,108,100,32,117,49,32,98,111,120,32,51,35,48,55,51,51,57,54,55],jyz],.aI [Yl,cR],En)
def Zo:Row:=([.str [57,32,117,115,101,32,117,49,32,99,111,110,101,95,49,32,51,32,50,35,57,54,50,56,50,52,50],Yk],.aI [Yo,cR],En)
def Zp:Row:=([.str [49,48,32,117,115,101,32,117,49,32,99,111,105,108,95,49,32,51,32,49,35,51,51,55,48,50,52,48],j0f],.aI [Yr,cR],En)
def Zq:Row:=([.str [49,49,32,109,101,97,115,117,114,101,32,117,49,32,115,119,101,101,112,32,51,32,56,53,35,56,50,52,48,49,52,56],Cm],.aI [Yx,cR],En)
def Zr:Row:=([.str [49,50,32,104,111,108,100,32,99,111,105,108,95,49,32,51,35,53,50,48,49,49,53,55],Yw],.aI [YA,cR],En)
def Zs:Row:=([.str [49,51,32,117,110,100,111,35,54,55,52,56,55,48,57],j1o],.aI [j12,cR],En)
def Zt:Row:=([.str [49,52,32,105,115,115,117,101,32,98,111,120,32,51,35,48,56,53,50,57,54,53],YB],.aI [P1,cR],En)
def Zu:Row:=([.str [49,53,32,117,112,100,97,116,101,32,117,49,32,51,35,50,52,56,53,48,49,51],jzm],.aI [P2,cR],En)
def Zv:Row:=([.str [49,54,32,117,110,100,111,35,56,51,50,54,51,57,51],YD],.aI [jx5,cR],En)
def Zw:Row:=([.str [49,55,32,117,110,100,111,35,50,49,56,53,54,57,53],YE],.aI [jyv,cR],En)
def Zx:Row:=([.str [49,56,32,109,101,97,115,117,114,101,32,117,49,32,115,119,101,101,112,32,51,32,57,49,35,50,51,54,49,51,49,55],j17],.aI [P3,cR],En)
def Zy:Row:=([.str [49,57,32,117,110,100,111,35,57,57,48,52,48,55,55],jxx],.aI [jrl,cR],En)
def Zz:Row:=([.str [50,48,32,115,104,105,112,32,117,49,32,51,35,53,49,49,54,56,51,51],P4],.aI [P5,cR],En)
def TS:Row:=([YQ,j3o],.aI [wv,cR],En)
def TT:Row:=([YQ,wv],.aI [.list En 1 [KP,G0],cR],En)
def TU:Row:=([.str [49,32,108,111,116,32,99,111,110,101,95,49,32,99,111,110,101,32,49,32,49,48,35,51,57,56,57,49,56,50,10,50,32,108,111,116,32,99,111,105,108,95,49,32,99,111,105,108,32,49,32,53,35,48,49,55,50,54,57,55,10,51,32,112,114,111,100,117,99,116,32,98,111,120,32,49,35,54,49,49,52,48,56,52,10,52,32,110,101,101,100,32,98,111,120,32,99,111,110,101,32,49,32,50,35,49,55,56,55,50,51,49,10,53,32,110,101,101,100,32,98,111,120,32,99,111,105,108,32,49,32,49,35,50,52,55,55,51,52,50,10,54,32,116,101,115,116,32,98,111,120,32,115,119,101,101,112,32,49,32,56,48,32,57,48,35,50,48,50,49,51,55,56,10,55,32,105,115,115,117,101,32,98,111,120,32,50,35,57,55,57,50,54,57,53,10,56,32,98,117,105,108,100,32,117,49,32,98,111,120,32,51,35,48,55,51,51,57,54,55,10,57,32,117,115,101,32,117,49,32,99,111,110,101,95,49,32,51,32,50,35,57,54,50,56,50,52,50,10,49,48,32,117,115,101,32,117,49,32,99,111,105,108,95,49,32,51,32,49,35,51,51,55,48,50,52,48,10,49,49,32,109,101,97,115,117,114,101,32,117,49,32,115,119,101,101,112,32,51,32,56,53,35,56,50,52,48,49,52,56,10,49,50,32,104,111,108,100,32,99,111,105,108,95,49,32,51,35,53,50,48,49,49,53,55,10,49,51,32,117,110,100,111,35,54,55,52,56,55,48,57,10,49,52,32,105,115,115,117,101,32,98,111,120,32,51,35,48,56,53,50,57,54,53,10,49,53,32,117,112,100,97,116,101,32,117,49,32,51,35,50,52,56,53,48,49,51,10,49,54,32,117,110,100,111,35,56,51,50,54,51,57,51,10,49,55,32,117,110,100,111,35,50,49,56,53,54,57,53,10,49,56,32,109,101,97,115,117,114,101,32,117,49,32,115,119,101,101,112,32,51,32,57,49,35,50,51,54,49,51,49,55,10,49,57,32,117,110,100,111,35,57,57,48,52,48,55,55,10,50,48,32,115,104,105,112,32,117,49,32,51,35,53,49,49,54,56,51,51,10,49]],.aI [YQ,.int .i64 500,.int .i64 29],En)
def r1:kg:=([.ptr 0 0,.str [108,111,116,32,99,111,110,101,95,49,32,99,111,110,101,32,49,32,49,48]],hw1,.aI [.str [100,111,110,101,32,49],cR],En,hw2)
def r2:kg:=([.ptr 0 0,.str [108,111,116,32,99,111,105,108,95,49,32,99,111,105,108,32,49,32,53]],hw2,.aI [.str [100,111,110,101,32,50],cR],En,hw3)
def r3:kg:=([.ptr 0 0,.str [112,114,111,100,117,99,116,32,98,111,120,32,49]],hw4,.aI [.str [100,111,110,101,32,51],cR],En,hw5)
def r4:kg:=([.ptr 0 0,.str [110,101,101,100,32,98,111,120,32,99,111,110,101,32,49,32,50]],hw6,.aI [.str [100,111,110,101,32,52],cR],En,hw7)
def r5:kg:=([.ptr 0 0,.str [110,101,101,100,32,98,111,120,32,99,111,105,108,32,49,32,49]],hw8,.aI [.str [100,111,110,101,32,53],cR],En,hw9)
def r6:kg:=([.ptr 0 0,.str [116,101,115,116,32,98,111,120,32,115,119,101,101,112,32,49,32,56,48,32,57,48]],zk3,.aI [.str [100,111,110,101,32,54],cR],En,zkx)
def r7:kg:=([.ptr 0 0,.str [105,115,115,117,101,32,98,111,120,32,50]],zk1,.aI [.str [100,111,110,101,32,55],cR],En,zg4)
def r8:kg:=([.ptr 0 0,.str [98,117,105,108,100,32,117,49,32,98,111,120,32,51]],zec,.aI [.str [100,111,110,101,32,56],cR],En,zdd)
def r9:kg:=([.ptr 0 0,.str [117,115,101,32,117,49,32,99,111,110,101,95,49,32,51,32,50]],zh9,.aI [.str [100,111,110,101,32,57],cR],En,jxa)
def Nc:kg:=(Cr,jwn,.aI [.str [],YL],En,jxa)
def Nh:kg:=([.ptr 0 0,.str [117,115,101,32,117,49,32,99,111,105,108,95,49,32,51,32,49]],jwn,.aI [.str [100,111,110,101,32,49,48],cR],En,j1f)
def Nn:kg:=(Cr,YS,YR,En,j1f)
def Ns:kg:=(j1v,YS,.aI [KQ,cR],En,zdx)
def Nv:kg:=([.ptr 0 0,.str [109,101,97,115,117,114,101,32,117,49,32,115,119,101,101,112,32,51,32,56,53]],YS,.aI [.str [100,111,110,101,32,49,49],cR],En,zio)
def Ny:kg:=(j1v,jx6,jrx,En,zh3)
def NC:kg:=([.ptr 0 0,.str [104,111,108,100,32,99,111,105,108,95,49,32,51]],jx6,.aI [.str [100,111,110,101,32,49,50],cR],En,jxd)
def M9:kg:=(Cr,YT,.aI [.str [],jry],En,jxd)
def Nd:kg:=(jxl,YT,.aI [.str [48],cR],En,zie)
def Ni:kg:=(K0,YT,.aI [.str [100,111,110,101,32,49,51],cR],En,zeo)
def Np:kg:=([.ptr 0 0,.str [105,115,115,117,101,32,98,111,120,32,51]],zk5,.aI [.str [100,111,110,101,32,49,52],cR],En,j1r)
def Nt:kg:=(Cr,jy1,.aI [.str [],jrp],En,j1r)
def Nw:kg:=([.ptr 0 0,.str [117,112,100,97,116,101,32,117,49,32,51]],jy1,.aI [.str [100,111,110,101,32,49,53],cR],En,jyr)
def Nz:kg:=(Cr,jzc,YR,En,jyr)
def ND:kg:=(K0,jzc,.aI [.str [100,111,110,101,32,49,54],cR],En,zfa)
def Na:kg:=(K0,zhk,.aI [.str [100,111,110,101,32,49,55],cR],En,zj4)
def Nf:kg:=([.ptr 0 0,.str [109,101,97,115,117,114,101,32,117,49,32,115,119,101,101,112,32,51,32,57,49]],zic,.aI [.str [100,111,110,101,32,49,56],cR],En,j2v)
def Nj:kg:=(Cr,jz9,YR,En,j2v)
def Nq:kg:=(K0,jz9,.aI [.str [100,111,110,101,32,49,57],cR],En,zd0)
def Nu:kg:=([.ptr 0 0,.str [108,111,116,115,32,117,49]],K1,.aI [.str [99,111,110,101,95,49,32,99,111,105,108,95,49],cR],En,P6)
def Nx:kg:=([.ptr 0 0,.str [115,116,111,99,107,32,99,111,110,101]],K1,.aI [.str [56],cR],En,P6)
def NA:kg:=(jxl,K1,.aI [.str [52],cR],En,P6)
def NE:kg:=(jyi,K1,jrx,En,P6)
def Nb:kg:=(Cr,K1,.aI [.str [100,111,110,101,32,50,48],cR],En,YU)
def Ng:kg:=(K0,YV,.aI [.str [],P4],En,YU)
def Nk:kg:=([.ptr 0 0,.str [117,115,101,32,117,49,32,99,111,110,101,95,49,32,51,32,49]],YV,.aI [.str [],YP],En,YU)
def Nr:kg:=(jyi,YV,.aI [Co,cR],En,zkl)
theorem w21:ae dS xL 129 YZ.1=Gb YZ.2:=by kernel_rfl
theorem w56:ae dS xL 129 Za.1=Gb Za.2:=by kernel_rfl
theorem w74:ae dS xL 129 Ze.1=Gb Ze.2:=by kernel_rfl
theorem zds:ae dS xL 53 Zh.1=Gb Zh.2:=by kernel_rfl
theorem zho:ae dS xL 53 Zp.1=Gb Zp.2:=by kernel_rfl
theorem zjs:ae dS xL 53 Zv.1=Gb Zv.2:=by kernel_rfl
theorem w18:ae dS xL 129 YY.1=Gb YY.2:=by kernel_rfl
theorem w45:ae dS xL 129 Y7.1=Gb Y7.2:=by kernel_rfl
theorem w53:ae dS xL 129 Y9.1=Gb Y9.2:=by kernel_rfl
theorem zjl:ae dS xL 53 Zj.1=Gb Zj.2:=by kernel_rfl
theorem zi1:ae dS xL 53 Zr.1=Gb Zr.2:=by kernel_rfl
theorem zgp:ae dS xL 53 Zw.1=Gb Zw.2:=by kernel_rfl
theorem Cs:ae dS xL 129 YX.1=Gb YX.2:=by kernel_rfl
theorem w39:ae dS xL 129 Y5.1=Gb Y5.2:=by kernel_rfl
theorem w59:ae dS xL 129 Zb.1=Gb Zb.2:=by kernel_rfl
theorem zg8:ae dS xL 53 Zg.1=Gb Zg.2:=by kernel_rfl
theorem zif:ae dS xL 53 Zk.1=Gb Zk.2:=by kernel_rfl
theorem zis:ae dS xL 53 Zm.1=Gb Zm.2:=by kernel_rfl
theorem zgu:ae dS xL 53 Zn.1=Gb Zn.2:=by kernel_rfl
theorem zg9:ae dS xL 53 Zy.1=Gb Zy.2:=by kernel_rfl
theorem wx:ae dS xL 129 YW.1=Gb YW.2:=by kernel_rfl
theorem w36:ae dS xL 129 Y4.1=Gb Y4.2:=by kernel_rfl
theorem w69:ae dS xL 129 Zd.1=Gb Zd.2:=by kernel_rfl
theorem zi0:ae dS xL 53 Zi.1=Gb Zi.2:=by kernel_rfl
theorem zdt:ae dS xL 53 Zq.1=Gb Zq.2:=by kernel_rfl
theorem w9:ae dS xL 129 e9.1=Gb e9.2:=by kernel_rfl
theorem w33:ae dS xL 129 Y3.1=Gb Y3.2:=by kernel_rfl
theorem w66:ae dS xL 129 Zc.1=Gb Zc.2:=by kernel_rfl
theorem zhg:ae dS xL 53 Zx.1=Gb Zx.2:=by kernel_rfl
theorem w6:ae dS xL 129 e6.1=Gb e6.2:=by kernel_rfl
theorem w30:ae dS xL 129 Y2.1=Gb Y2.2:=by kernel_rfl
theorem w79:ae dS xL 129 Zf.1=Gb Zf.2:=by kernel_rfl
theorem zja:ae dS xL 53 Zl.1=Gb Zl.2:=by kernel_rfl
theorem zhb:ae dS xL 53 Zo.1=Gb Zo.2:=by kernel_rfl
theorem zfk:ae dS xL 53 Zt.1=Gb Zt.2:=by kernel_rfl
theorem zjm:ae dS xL 53 Zz.1=Gb Zz.2:=by kernel_rfl
theorem w3:ae dS xL 129 e3.1=Gb e3.2:=by kernel_rfl
theorem w27:ae dS xL 129 Y1.1=Gb Y1.2:=by kernel_rfl
theorem w42:ae dS xL 129 Y6.1=Gb Y6.2:=by kernel_rfl
theorem zjb:ae dS xL 53 Zu.1=Gb Zu.2:=by kernel_rfl
theorem w24:ae dS xL 129 Y0.1=Gb Y0.2:=by kernel_rfl
theorem w50:ae dS xL 129 Y8.1=Gb Y8.2:=by kernel_rfl
theorem ziu:ae dS xL 53 Zs.1=Gb Zs.2:=by kernel_rfl
end Go.Z
namespace Go.Z
open Go Go.Abs Go.Proofs
def ZA:List (Nat×List Row):=[(53,[Zg,Zh,Zi,Zj,Zk,Zl,Zm,Zn,Zo,Zp,Zq,Zr,Zs,Zt,Zu,Zv,Zw,Zx,Zy,Zz]),(129,[e3,e6,e9,YW,YX,YY,YZ,Y0,Y1,Y2,Y3,Y4,Y5,Y6,Y7,Y8,Y9,Za,Zb,Zc,Zd,Ze,Zf])]
def tab:Nat->ak Row:=yG ZA
theorem j8h:TW Tryz.prog tab:=
 TX (t:=ZA) ⟨⟨jl dU zg8,jl dU zds,jl dU zi0,jl dU zjl,jl dU zif,jl dU zja,jl dU zis,jl dU zgu,jl dU zhb,jl dU zho,jl dU zdt,jl dU zi1,jl dU ziu,jl dU zfk,jl dU zjb,jl dU zjs,jl dU zgp,jl dU zhg,jl dU zg9,jl dU zjm,trivial⟩,⟨jl dU w3,jl dU w6,jl dU w9,jl dU wx,jl dU Cs,jl dU w18,jl dU w21,jl dU w24,jl dU w27,jl dU w30,jl dU w33,jl dU w36,jl dU w39,jl dU w42,jl dU w45,jl dU w50,jl dU w53,jl dU w56,jl dU w59,jl dU w66,jl dU w69,jl dU w74,jl dU w79,trivial⟩,trivial⟩
def ec:j8:={ br:=dS.br,cD:=fun k=>match tab k with
 |some l=>Gb fun args=>FB args l
 |none=>KM k,cH:=dS.cH,maps:=dS.maps }
theorem en:b8 Tryz.prog ec where
 fn:=dU.fn
 gd:=by
  intro k f hf;simp only[ec]at hf;split at hf
  .rename_i l hl;cases hf;exact⟨vb (TY ZA (by kernel_rfl) k l hl),fun args v o hv _ _=>j8h k l hl _ (T0 hv)⟩
  .exact dU.gd k f hf
 mixed:=dU.mixed
 fa:=dU.fa
 maps:=dU.maps
abbrev xA:=jJ ec 1000
end Go.Z
end
