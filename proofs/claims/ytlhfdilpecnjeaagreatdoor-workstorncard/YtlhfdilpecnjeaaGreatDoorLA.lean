/- The library's functions in the abstract machine. -/
import Derived.Test.YtlhfdilpecnjeaaGreatDoorZS
import Derived.Test.YtlhfdilpecnjeaaGreatDoorZP
import Derived.Lib.AppendIntMem
import Derived.Test.YtlhfdilpecnjeaaGreatDoorL1
set_option linter.unusedVariables false
set_option linter.unusedSimpArgs false
set_option maxRecDepth 100000
noncomputable section
open Bool renaming false->En,and_eq_true->Hb,cond_eq_ite->H3,true->H4,false_eq_true->Ia
open Nat renaming eq_of_beq_eq_true->E6,beq->Hc,le_of_ble_eq_true->H2,blt->Ib,ble->Ic,le_refl->Ij,blt_eq->Il
open Option renaming some->Ha,none->H8
open List renaming cons_append->H9,length_map->If,isPrefixOf->Ig,length_singleton->Ik,length_append->Io,flatten_cons->Ip,length_cons->Iq,map_cons->Iw,mem_map->Ix,map_map->Iy
namespace Go.Z
open Go Go.Abs Go.Proofs Go.RowKit
theorem q8v {C}:∀(l:List ByteArray),bj C (l.map fun s=>.str s.data.toList) (l.map Value.string)
 | []=>.nil|s::l=>.cons _ _ _ _ (show bS C (.str s.data.toList) (.string s)from .str _) (q8v l)
theorem q7d {C r}:∀ {ss:List aj} {o:Nat},bB C r 1 (ss.map AVal.str) o->∀(j:Nat) s,ss[j]?=Ha s->C.K r (o+j)=Ha (.string ⟨⟨s⟩⟩)
 | [],o,_,j,s,hj=>by simp at hj
 |x::ss,o,h,j,s,hj=>by
  cases h with
  |dp _ _ _ _ _ G M Q=>
   cases j with
   |zero=>
    simp only[List.getElem?_cons_zero,Ha.injEq]at hj;subst hj
    cases M with
    |dz _ _ _ _ u hv hu _=>
     rw[Nat.add_zero,hv,bS.cz hu]
   |succ j=>
    have:=q7d Q j s (by simpa using hj);rw[show o+(j+1)=o+1+j by omega];exact this
theorem WJ {w w'}(h:Below w.heap.size w w'):Ext w w':=⟨h.size,h.block,h.os,h.output⟩
theorem jor {n}(h0:-9223372036854775808<=n)(Y:n<=9223372036854775807):IsoCall Tryz.prog 43 [.int .i64 n] (.str (Lib.itoa n)) En:=by
 refine Jn fun K w vs ht hk Q=>?_
 cases Q with
 |cons _ _ v vs M Q=>
  cases Q;obtain rfl:=bS.bU M
  have hg:Tryz.prog.globalNamed pI=Ha 1:=by kernel_rfl
  refine⟨.string ⟨⟨Lib.itoa n⟩⟩,.str _,(Tryz.strconv_Itoa n h0 Y w (ht.table hg)).mono ?_⟩;rintro e w' ⟨rfl,k,os,rfl⟩;exact⟨rfl,WJ (Lib.below_grow w.heap.size w (Ij _) k os)⟩
theorem q41 {s c}:IsoCall Tryz.prog 256 [.str s,.int .u8 c] (.int .i64 (Lib.indexByte s c.toNat.toUInt8)) En:=by
 refine Jn fun K w vs ht hk Q=>?_
 cases Q with
 |cons _ _ v vs M Q=>
  cases Q with
  |cons _ _ v2 vs fV Q=>
   cases Q;obtain rfl:=bS.cz M;obtain rfl:=bS.bU fV;refine⟨_,.int _ _,(Tryz.stringslite_IndexByte ⟨⟨s⟩⟩ c w).mono ?_⟩;rintro e w' ⟨rfl,rfl⟩;exact⟨rfl,Ext.refl _⟩
theorem jjc {s p}(G:s.length<4294967281)(hp:1<=p.length):IsoCall Tryz.prog 19 [.str s,.str p] (.list En 1 ((Lib.splitB ⟨⟨p⟩⟩ 0 (Lib.countB ⟨⟨s⟩⟩ ⟨⟨p⟩⟩) ⟨⟨s⟩⟩).map fun x=>.str x.data.toList)) En:=by
 refine jpq (us:=(Lib.splitB ⟨⟨p⟩⟩ 0 (Lib.countB ⟨⟨s⟩⟩ ⟨⟨p⟩⟩) ⟨⟨s⟩⟩).map Value.string) (t:=9) (fun x M=>?_) (fun K=>q8v _) (fun u hu=>?_) fun K w vs ht hk Q=>?_
 .obtain⟨y,_,rfl⟩:=Ix.1 M;rfl
 .obtain⟨y,_,rfl⟩:=Ix.1 hu;rfl
 .cases Q with
  |cons _ _ v vs M Q=>
   cases Q with
   |cons _ _ v2 vs fV Q=>
    cases Q;obtain rfl:=bS.cz M;obtain rfl:=bS.cz fV
    have hg0:Tryz.prog.globalNamed AP=Ha 0:=by kernel_rfl
    obtain⟨m,hm⟩:=ht.length hg0;refine(Tryz.strings_Split ⟨⟨s⟩⟩ ⟨⟨p⟩⟩ m w G hm hp).mono ?_;rintro e w' ⟨rfl,rfl⟩;refine⟨?_,rfl⟩;rw[If,Lib.splitB_all ⟨⟨p⟩⟩ hp 0 _ ⟨⟨s⟩⟩ rfl]
theorem jl3 {ss p}(bG:ss≠[])(hN:ss.length<=140737488355328)(hlen:(Lib.join ss p).length<=140737488355328):IsoCall Tryz.prog 47 [.list En 1 (ss.map .str),.str p] (.str (Lib.join ss p)) En:=by
 refine Jn fun K w vs ht hk Q=>?_
 cases Q with
 |cons _ _ v vs M Q=>
  cases Q with
  |cons _ _ v2 vs fV Q=>
   cases Q;obtain rfl:=bS.cz fV
   have hl:∃r o cap,v=.slice (Ha ⟨r,o,H8⟩) (ss.map AVal.str).length cap/\(ss.map AVal.str).length<=cap/\bB (.bZ K) r 1 (ss.map .str) o:=by
    generalize hq:ss.map AVal.str=q at M
    cases M with
    |list _ _ r o cap hl cY=>exact⟨r,o,cap,rfl,hl,cY⟩|jW _ a G=>exact absurd (List.map_eq_nil_iff.1 hq) bG
   obtain⟨r,o,cap,rfl,hcap,cY⟩:=hl
   have mL:(ss.map fun s=>(⟨⟨s⟩⟩:ByteArray)).map (·.data.toList)=ss:=by
    rw[Iy];exact List.map_id' _
   have hcells:∀(j:Nat) x,(ss.map fun s=>(⟨⟨s⟩⟩:ByteArray))[j]?=Ha x->w.cell? ⟨r,o+j,H8⟩=Ha (.string x):=by
    intro j x hj;rw[List.getElem?_map,Option.map_eq_some_iff]at hj;obtain⟨s,G,rfl⟩:=hj;exact hk _ _ _ (q7d cY j s G)
   have hbk:r<w.heap.size:=by
    cases wu:ss with
    |nil=>exact absurd wu bG
    |cons s l=>
     have:=hcells 0 ⟨⟨s⟩⟩ (by rw[wu];rfl);rcases Nat.lt_or_ge r w.heap.size with h|h
     .exact h
     .simp[World.cell?,Array.getElem?_eq_none h]at this
   have hj:=Tryz.strings_Join r o cap (ss.map fun s=>(⟨⟨s⟩⟩:ByteArray)) ⟨⟨p⟩⟩ w hcells hbk (by simpa using hN) (by simpa using hcap) (by rw[mL];exact hlen);rw[mL,If]at hj;rw[If];refine⟨.string ⟨⟨Lib.join ss p⟩⟩,.str _,hj.mono ?_⟩;rintro e w' ⟨rfl,hb⟩;exact⟨rfl,WJ hb⟩
theorem jdx {s:aj}{c}(hc:c<=9223372036854775807)(hlen:s.length*c<=140737488355328):IsoCall Tryz.prog 211 [.str s,.int .i64 (c:Int)] (.str (Lib.repeatL s c)) En:=by
 refine Jn fun K w vs ht hk Q=>?_
 cases Q with
 |cons _ _ v vs M Q=>
  cases Q with
  |cons _ _ v2 vs fV Q=>
   cases Q;obtain rfl:=bS.cz M;obtain rfl:=bS.bU fV;refine⟨.string ⟨⟨Lib.repeatL s c⟩⟩,.str _,(Tryz.strings_Repeat ⟨⟨s⟩⟩ c w hc hlen).mono ?_⟩;rintro e w' ⟨rfl,hb⟩;exact⟨rfl,WJ hb⟩
theorem q43 {p}:IsoCall Tryz.prog 47 [.list H4 0 [],.str p] (.str []) En:=by
 refine Jn fun K w vs ht hk Q=>?_
 cases Q with
 |cons _ _ v vs M Q=>
  cases Q with
  |cons _ _ v2 vs fV Q=>
   cases Q;obtain rfl:=bS.cz fV;cases M;refine⟨.string ⟨#[]⟩,.str _,(Tryz.strings_Join_none _ _ ⟨⟨p⟩⟩ w).mono ?_⟩;rintro e w' ⟨rfl,rfl⟩;exact⟨rfl,Ext.refl _⟩
end Go.Z
namespace Go.Z
open Go Go.Abs Go.Proofs
def vE (c:UInt8)(acc:aj):aj->List aj
 | []=>[acc]
 |x::t=>if x=c then acc::vE c [] t else vE c (acc++[x]) t
def ef (c:UInt8)(s:aj):List aj:=vE c [] s
theorem jcw {c}:∀ {s:aj} {acc:aj},c ∉ s->vE c acc s=[acc++s]
 | [],acc,_=>by simp[vE]
 |x::t,acc,h=>by
  have Y:x≠c:=fun e=>h (by simp[e]);have I:c ∉ t:=fun e=>h (by simp[e]);rw[vE,if_neg Y,jcw I];simp
theorem jcs {c}:∀ {a b acc:aj},c ∉ a->vE c acc (a++c::b)=(acc++a)::ef c b
 | [],b,acc,_=>by simp[vE,ef]
 |x::t,b,acc,h=>by
  have Y:x≠c:=fun e=>h (by simp[e]);have I:c ∉ t:=fun e=>h (by simp[e]);rw[H9,vE,if_neg Y,jcs I];simp
theorem tE {c s}(h:c ∉ s):ef c s=[s]:=jcw h
theorem rQ {c a b}(h:c ∉ a):ef c (a++c::b)=a::ef c b:=jcs h
theorem OU (c:UInt8)(s:aj):c ∉ s\/∃a b,s=a++c::b/\c ∉ a:=by
 by_cases h:c∈s
 .obtain⟨a,b,Y,I⟩:=List.eq_append_cons_of_mem h;exact .inr ⟨a,b,Y,I⟩
 .exact .inl h
theorem Ke {c:UInt8}{P:aj->Prop}(h0:∀s,c ∉ s->P s)(Y:∀a b,c ∉ a->P b->P (a++c::b)):∀(n:Nat) (s:aj),s.length<=n->P s
 |0,s,hn=>h0 s (by rw[List.length_eq_zero_iff.1 (by omega:s.length=0)];simp)
 |n+1,s,hn=>by
  rcases OU c s with h|⟨a,b,rfl,h⟩
  .exact h0 s h
  .exact Y a b h (Ke h0 Y n b (by simp only[Io,Iq]at hn;omega))
theorem zJ (c:UInt8)(s:aj):ef c s≠[]:=by
 rcases OU c s with h|⟨a,b,rfl,h⟩
 .rw[tE h];simp
 .rw[rQ h];simp
theorem WK (c:UInt8)(s:aj):(ef c s).length<=s.length+1:=by
 refine Ke (c:=c) (P:=fun s=>(ef c s).length<=s.length+1) ?_ ?_ s.length s (Ij _)
 .intro s h;rw[tE h];simp
 .intro a b h ih;rw[rQ h];simp only[Io,Iq];omega
theorem jnr (c:UInt8)(s:aj):Lib.join (ef c s) [c]=s:=by
 refine Ke (c:=c) (P:=fun s=>Lib.join (ef c s) [c]=s) ?_ ?_ s.length s (Ij _)
 .intro s h;rw[tE h,Lib.join_one]
 .intro a b h ih;rw[rQ h]
  cases hb:ef c b with
  |nil=>exact absurd hb (zJ c b)
  |cons x r=>
   rw[hb]at ih;rw[Lib.join_cons];rw[Lib.join_cons]at ih;simp only[Lib.joinTail,Iw,Ip]at ih ⊢;rw[<-ih];simp
theorem WL (c:UInt8):∀(x:aj) (r:List aj),c ∉ x->(∀y∈r,c ∉ y)->ef c (Lib.join (x::r) [c])=x::r
 |x,[],M,_=>by rw[Lib.join_one,tE M]
 |x,y::r,M,Q=>by
  have ih:=WL c y r (Q y (by simp)) (fun z hz=>Q z (by simp[hz]));rw[Lib.join_cons]at ih ⊢;simp only[Lib.joinTail,Iw,Ip,H9,List.nil_append]at ih ⊢;rw[rQ M,ih]
theorem q65 {c}:∀ {s:aj},c ∉ s->Lib.index s [c]=-1
 | [],_=>rfl
 |x::t,h=>by
  have Y:x≠c:=fun e=>h (by simp[e]);have I:c ∉ t:=fun e=>h (by simp[e])
  have hp:([c]:aj).isPrefixOf (x::t)=En:=by simp[Ig,Ne.symm Y]
  rw[Lib.index,hp,q65 I];rfl
theorem q9u {c}:∀ {a b:aj},c ∉ a->Lib.index (a++c::b) [c]=(a.length:Int)
 | [],b,_=>by simp[Lib.index,Ig]
 |x::t,b,h=>by
  have Y:x≠c:=fun e=>h (by simp[e]);have I:c ∉ t:=fun e=>h (by simp[e])
  have hp:([c]:aj).isPrefixOf (x::(t++c::b))=En:=by simp[Ig,Ne.symm Y]
  have bG:((t.length:Int) == -1)=En:=by simp
  rw[H9,Lib.index,hp,q9u I,bG];simp
theorem jc0 {c}:∀ {s:aj},c ∉ s->Lib.indexByte s c=-1
 | [],_=>rfl
 |x::t,h=>by
  have Y:x≠c:=fun e=>h (by simp[e]);have I:c ∉ t:=fun e=>h (by simp[e]);rw[Lib.indexByte,if_neg (by simpa using Y),jc0 I];rfl
theorem WM {c}:∀ {a b:aj},c ∉ a->Lib.indexByte (a++c::b) c=(a.length:Int)
 | [],b,_=>by simp[Lib.indexByte]
 |x::t,b,h=>by
  have Y:x≠c:=fun e=>h (by simp[e]);have I:c ∉ t:=fun e=>h (by simp[e])
  have bG:((t.length:Int) == -1)=En:=by simp
  rw[H9,Lib.indexByte,if_neg (by simpa using Y),WM I,bG];simp
theorem joy (c:UInt8)(s:aj):Lib.split s [c]=ef c s:=by
 refine Ke (c:=c) (P:=fun s=>Lib.split s [c]=ef c s) ?_ ?_ s.length s (Ij _)
 .intro s h;rw[tE h,Lib.split,Lib.count_miss (q65 h)];rfl
 .intro a b h ih;have hi:=q9u (b:=b) h
  have hd:(a++c::b).drop (a.length+1)=b:=by
   rw[show a++c::b=(a++[c])++b by simp,show a.length+1=(a++[c]).length by simp,List.drop_left]
  have hm:((a.length:Int) == -1)=En:=by simp
  rw[rQ h,Lib.split,Lib.count_hit (by simp) hi];simp only[Ik,hd,Nat.add_comm 1];rw[Lib.splitK,hi,hm];simp only[Ia,if_false,Int.toNat_natCast,Nat.add_zero,Ik,hd];rw[List.take_left',<-ih]; · rfl
  .rfl
def Gt (c:UInt8):aj->Nat->Int
 | [],_=>-1|b::l,n=>bif b == c then(n:Int)else Gt c l (n+1)
theorem jck (c:UInt8):∀(l:aj) (n:Nat),Gt c l n=if Lib.indexByte l c == -1 then -1 else Lib.indexByte l c+n
 | [],n=>rfl
 |b::l,n=>by
  have oR:=Lib.indexByte_ge l c;rw[Gt,Lib.indexByte,jck c l (n+1)]
  cases hb:(b == c)with
  |true=>simp
  |false=>
   simp only[cond_false,Ia,if_false];by_cases h:Lib.indexByte l c=-1
   .simp[h]
   .have Y:(Lib.indexByte l c == -1)=En:=by simpa using h
    have I:(Lib.indexByte l c+1 == -1)=En:=by simp;omega
    simp only[Y,I,Ia,if_false];omega
theorem q4d (c:UInt8)(l:aj):Gt c l 0=Lib.indexByte l c:=by
 rw[jck];by_cases h:Lib.indexByte l c=-1
 .simp[h]
 .have Y:(Lib.indexByte l c == -1)=En:=by simpa using h
  simp[Y]
def Gu:Nat->Nat->aj->aj
 |0,_,acc=>acc|f+1,u,acc=>bif Ib u 10 then UInt8.ofNat (48+u)::acc else Gu f (u / 10) (UInt8.ofNat (48+u % 10)::acc)
theorem WN:∀ (f u:Nat) (acc:aj),u<10^f->0<f->Gu f u acc=Lib.decDigits u++acc
 |0,_,_,_,h=>by omega
 |f+1,u,acc,hu,_=>by
  rw[Gu,Lib.decDigits];by_cases h:u<10
  .rw[Il.mpr h];simp[h]
  .have hb:Ib u 10=En:=by
    cases hh:Ib u 10 with
    |false=>rfl|true=>exact absurd (Il.mp hh) h
   have hf:0<f:=by
    rcases Nat.eq_zero_or_pos f with rfl|Y
    .simp at hu;omega
    .exact Y
   rw[hb,dif_neg h];simp only[cond_false];rw[WN f (u / 10) _ (by rw[Nat.pow_succ]at hu;omega) hf];simp
def Gv:List AVal->ak aj
 | []=>Ha []
 | .str s::l=>match Gv l with
  |some r=>Ha (s::r)|none=>H8
 |_=>H8
theorem q3q:∀ {l:List AVal} {r:List aj},Gv l=Ha r->l=r.map .str
 | [],r,h=>by cases h;rfl
 | .str s::l,r,h=>by
  simp only[Gv]at h;split at h
  .rename_i q hq;cases h;rw[q3q hq];rfl
  .cases h
 | .bool _::_,_,h | .int ..::_,_,h | .list ..::_,_,h | .ms ..::_,_,h | .ptr ..::_,_,h | .aq _::_,_,h | .b6::_,_,h | .map _::_,_,h | .b8::_,_,h | .fn ..::_,_,h | .cu::_,_,h | .agg _::_,_,h | .aJ _::_,_,h | .undef::_,_,h | .any::_,_,h | .ay ..::_,_,h | .dT ..::_,_,h | .cW _::_,_,h=>by cases h
def OV:List AVal->Option (AVal×Bool)
 | [.str s,.int .u8 (.ofNat c)]=>Ha (.int .i64 (Gt (UInt8.ofNat c) s 0),En)|_=>H8
def Kf:List AVal->Option (AVal×Bool)
 | [.str s,.str [c]]=>bif Ib s.length 4294967281 then Ha (.list En 1 ((ef c s).map .str),En)else H8|_=>H8
def t99:List AVal->Option (AVal×Bool)
 | [.list H4 0 [],.str _]=>Ha (.str [],En)
 | [.list En 1 l,.str p]=>match Gv l with
  |some (s::ss)=>bif Ic (s::ss).length 100000&&Ic (p.intercalate (s::ss)).length 100000000 then Ha (.str (p.intercalate (s::ss)),En)else H8|_=>H8
 |_=>H8
def zK:List AVal->Option (AVal×Bool)
 | [.int .i64 (.ofNat n)]=>bif Ib n 1000000000000000000 then Ha (.str (Gu 18 n []),En)else H8|_=>H8
def Kg:List AVal->Option (AVal×Bool)
 | [.str s,.int .i64 (.ofNat c)]=>bif Ic c 100000&&Ic (s.length*c) 100000 then Ha (.str (Lib.repeatL s c),En)else H8|_=>H8
theorem jsj {args v o}(h:OV args=Ha (v,o)):IsoCall Tryz.prog 256 args v o:=by
 unfold OV at h;split at h
 .rename_i s c;cases h;rw[q4d];exact q41 (s:=s) (c:=Int.ofNat c)
 .cases h
theorem jry {args v o}(h:Kf args=Ha (v,o)):IsoCall Tryz.prog 19 args v o:=by
 unfold Kf at h;split at h
 .rename_i s c
  cases hl:Ib s.length 4294967281 with
  |false=>rw[hl]at h;cases h
  |true=>
   rw[hl]at h;cases h;have:=jjc (s:=s) (p:=[c]) (Il.mp hl) (by simp)
   have e:(Lib.splitB ⟨⟨[c]⟩⟩ 0 (Lib.countB ⟨⟨s⟩⟩ ⟨⟨[c]⟩⟩) ⟨⟨s⟩⟩).map (fun x=>AVal.str x.data.toList)=(ef c s).map .str:=by
    rw[<-joy]
    have e2:(Lib.splitB ⟨⟨[c]⟩⟩ 0 (Lib.countB ⟨⟨s⟩⟩ ⟨⟨[c]⟩⟩) ⟨⟨s⟩⟩).map (·.data.toList)=Lib.split s [c]:=by
     rw[Lib.splitB_data];rfl
    rw[<-e2,Iy];rfl
   rw[e]at this;exact this
 .cases h
theorem jw1 {args v o}(h:t99 args=Ha (v,o)):IsoCall Tryz.prog 47 args v o:=by
 unfold t99 at h;split at h
 .cases h;exact q43
 .rename_i l p;split at h
  .rename_i s ss hq
   cases hk:(Ic (s::ss).length 100000&&Ic (p.intercalate (s::ss)).length 100000000)with
   |false=>rw[hk]at h;cases h
   |true=>
    rw[hk]at h;cases h;simp only[Hb]at hk;have Y:=H2 hk.1;have I:=H2 hk.2;rw[q3q hq];exact jl3 (ss:=s::ss) (p:=p) (by simp) (by omega) (by show(p.intercalate (s::ss)).length<=_;omega)
  .cases h
 .cases h
theorem jby {args v o}(h:zK args=Ha (v,o)):IsoCall Tryz.prog 43 args v o:=by
 unfold zK at h;split at h
 .rename_i n
  cases hk:Ib n 1000000000000000000 with
  |false=>rw[hk]at h;cases h
  |true=>
   rw[hk]at h;cases h;have hn:=Il.mp hk;have:=jor (n:=Int.ofNat n) (by simp<;>omega) (by simp<;>omega)
   have e:Lib.itoa (Int.ofNat n)=Gu 18 n []:=by
    rw[WN 18 n [] (by omega) (by omega),List.append_nil];unfold Lib.itoa;rw[if_neg (by simp)];rfl
   rw[e]at this;exact this
 .cases h
theorem jr3 {args v o}(h:Kg args=Ha (v,o)):IsoCall Tryz.prog 211 args v o:=by
 unfold Kg at h;split at h
 .rename_i s c
  cases hk:(Ic c 100000&&Ic (s.length*c) 100000)with
  |false=>rw[hk]at h;cases h
  |true=>
   rw[hk]at h;cases h;simp only[Hb]at hk;have Y:=H2 hk.1;have I:=H2 hk.2;exact jdx (s:=s) (c:=c) (by omega) (by omega)
 .cases h
theorem jhl {k f}(h:Is k f):Abs.Enters Tryz.prog k:=by
 obtain⟨fn,hh,Y,I⟩:=h;obtain⟨c,g1,g2,g3,g4,g5⟩:=Ua I;exact⟨fn,Y,g5,by rw[g1];rfl⟩
theorem ui {k}(h:(tree.find k).isSome=H4):Abs.Enters Tryz.prog k:=by
 obtain⟨f,hf⟩:=Option.isSome_iff_exists.1 h;exact jhl (bL.gp all hf)
def Kh:Aw:=fun k=>bif Hc k 256 then Ha OV else bif Hc k 19 then Ha Kf else bif Hc k 47 then Ha t99 else bif Hc k 43 then Ha zK else bif Hc k 211 then Ha Kg else H8
def Gw (args:List AVal)(h:qf):Option (AVal×Bool×qf):=bif qo 0 args then(match zK args with
 |some (v,_)=>Ha (v,En,h)
 |none=>H8)else H8
def WO:jip:=fun k=>bif Hc k 43 then Ha Gw else H8
def isL (k:Nat):Bool:=Hc k 256||Hc k 19||Hc k 47||Hc k 43||Hc k 211
def dN:j8:={ br:=fun k=>bif isL k then H8 else WQ.br k,cB:=Kh,cF:=WO,maps:=Ki }
theorem js1 {args h v o h'}(hq:Gw args h=Ha (v,o,h')):Bc Tryz.prog 43 args h v o h':=by
 unfold Gw at hq
 cases hb:qo 0 args with
 |false=>rw[hb]at hq;cases hq
 |true=>
  rw[hb]at hq;simp only[cond_true]at hq;split at hq
  .rename_i v' o' ht;cases hq
   have hv:l7 v=H4:=by
    unfold zK at ht;split at ht
    .rename_i n
     cases hk:Ib n 1000000000000000000 with
     |false=>rw[hk]at ht;cases ht|true=>rw[hk]at ht;cases ht;rfl
    .cases ht
   exact(jby ht).shr hb hv h
  .cases hq
theorem SY:∀ (t:List (Nat×List Row)),(t.all fun p=>(tree.find p.1).isSome)=H4->∀k l,xF t k=Ha l->(tree.find k).isSome=H4
 |(j,m)::t,h,k,l,hk=>by
  simp only[List.all_cons,Hb]at h;simp only[xF,H3]at hk;split at hk
  .next hb=>rw[<-E6 hb];exact h.1
  .exact SY t h.2 k l hk
theorem tF:bX Tryz.prog pr:=okM S2
theorem dP:bX Tryz.prog dN where
 fn:=by
  intro k f hf;simp only[dN,H3]at hf;split at hf
  .cases hf
  .exact(okW S2).fn k f hf
 fM:=by
  intro k f hf;simp only[dN,Kh,H3]at hf;split at hf
  .next hb=>cases hf;obtain rfl:=E6 hb;exact⟨ui (k:=256) (by kernel_rfl),fun args v o h _ _=>jsj h⟩
  split at hf
  .next hb=>cases hf;obtain rfl:=E6 hb;exact⟨ui (k:=19) (by kernel_rfl),fun args v o h _ _=>jry h⟩
  split at hf
  .next hb=>cases hf;obtain rfl:=E6 hb;exact⟨ui (k:=47) (by kernel_rfl),fun args v o h _ _=>jw1 h⟩
  split at hf
  .next hb=>cases hf;obtain rfl:=E6 hb;exact⟨ui (k:=43) (by kernel_rfl),fun args v o h _ _=>jby h⟩
  split at hf
  .next hb=>cases hf;obtain rfl:=E6 hb;exact⟨ui (k:=211) (by kernel_rfl),fun args v o h _ _=>jr3 h⟩
  .cases hf
 mixed:=tF.mixed
 eU:=by
  intro k f hf;simp only[dN,WO,H3]at hf;split at hf
  .next hb=>cases hf;obtain rfl:=E6 hb;exact⟨ui (k:=43) (by kernel_rfl),fun args h v o h' hq=>js1 hq⟩
  .cases hf
 maps:=tF.maps
end Go.Z
namespace Go.Z
open Go Go.Abs Go.Proofs
def Gx:AVal->AVal->Bool
 | .fn (.func a) [] [],.fn (.func b) [] []=>Hc a b| .cu,.cu=>H4| .ay a b c,.ay a' b' c'=>Hc a a'&&(Hc b b'&&Hc c c')| .ptr a b,.ptr a' b'=>Hc a a'&&Hc b b'|a,b=>jP a b
theorem OW {a b}(h:Gx a b=H4):a=b:=by
 unfold Gx at h;split at h
 .rw[E6 h]
 .rfl
 .simp only[Hb]at h;rw[E6 h.1,E6 h.2.1,E6 h.2.2]
 .simp only[Hb]at h;rw[E6 h.1,E6 h.2]
 .exact q3p h
def Kj:List AVal->List AVal->Bool
 | [],[]=>H4|a::l,b::m=>Gx a b&&Kj l m|_,_=>En
theorem WR:∀ {l m:List AVal},Kj l m=H4->l=m
 | [],[],_=>rfl
 |a::l,b::m,h=>by
  simp only[Kj,Hb]at h;rw[OW h.1,WR h.2]
 | [],_::_,h=>by cases h
 |_::_,[],h=>by cases h
def WS:AVal->AVal->Bool
 | .agg l,.agg m=>Kj l m|a,b=>Gx a b
theorem jjh {a b}(h:WS a b=H4):a=b:=by
 unfold WS at h;split at h
 .rw[WR h]
 .exact OW h
def OX:List (AVal×Bool)->List (AVal×Bool)->Bool
 | [],[]=>H4|(a,o)::l,(b,q)::m=>Gx a b&&((o == q)&&OX l m)|_,_=>En
theorem qx7:∀ {l m:List (AVal×Bool)},OX l m=H4->l=m
 | [],[],_=>rfl
 |(a,o)::l,(b,q)::m,h=>by
  simp only[OX,Hb,beq_iff_eq]at h;rw[OW h.1,h.2.1,qx7 h.2.2]
 | [],_::_,h=>by cases h
 |_::_,[],h=>by cases h
def OY:List (AVal×AVal)->List (AVal×AVal)->Bool
 | [],[]=>H4|(a,o)::l,(b,q)::m=>Gx a b&&(WS o q&&OY l m)|_,_=>En
theorem qzn:∀ {l m:List (AVal×AVal)},OY l m=H4->l=m
 | [],[],_=>rfl
 |(a,o)::l,(b,q)::m,h=>by
  simp only[OY,Hb]at h;rw[OW h.1,jjh h.2.1,qzn h.2.2]
 | [],_::_,h=>by cases h
 |_::_,[],h=>by cases h
def WT:aK->aK->Bool
 | .hole,.hole=>H4| .dead,.dead=>H4| .cells l,.cells m=>OX l m| .map l,.map m=>OY l m| .vec a b l,.vec a' b' m=>Hc a a'&&(Hc b b'&&u0 l m)|_,_=>En
theorem jgo {a b}(h:WT a b=H4):a=b:=by
 unfold WT at h;split at h
 .rfl
 .rfl
 .rw[qx7 h]
 .rw[qzn h]
 .simp only[Hb]at h;rw[E6 h.1,E6 h.2.1,FX h.2.2]
 .cases h
def OZ:qf->qf->Bool
 | [],[]=>H4|a::l,b::m=>WT a b&&OZ l m|_,_=>En
theorem qyq:∀ {l m:qf},OZ l m=H4->l=m
 | [],[],_=>rfl
 |a::l,b::m,h=>by
  simp only[OZ,Hb]at h;rw[jgo h.1,qyq h.2]
 | [],_::_,h=>by cases h
 |_::_,[],h=>by cases h
abbrev kl:=List AVal×qf×AVal×Bool×qf
def MU (args:List AVal)(h:qf):List kl->Option (AVal×Bool×qf)
 | []=>H8|r::l=>bif Kj args r.1&&OZ h r.2.1 then Ha r.2.2 else MU args h l
theorem q4w {args h x}:∀ {l:List kl},MU args h l=Ha x->(args,h,x)∈l
 | [],h=>by cases h
 |r::l,M=>by
  simp only[MU,H3]at M;split at M
  .next hb=>
   simp only[Hb]at hb;cases M;rw[WR hb.1,qyq hb.2];exact List.mem_cons_self ..
  .exact List.mem_cons_of_mem _ (q4w M)
def SV (P:Program)(k:Nat):List kl->Prop
 | []=>True|r::l=>Bc P k r.1 r.2.1 r.2.2.1 r.2.2.2.1 r.2.2.2.2/\SV P k l
theorem jad {P k}:∀ {l:List kl},SV P k l->∀r∈l,Bc P k r.1 r.2.1 r.2.2.1 r.2.2.2.1 r.2.2.2.2
 |r::l,h,x,M=>by
  cases M with
  |head=>exact h.1|tail _ M=>exact jad h.2 x M
theorem j9 {P p}(hp:bX P p){n k args h h' v o}(Q:ai p (iX p n) k args h=Ha (v,o,h')):Bc P k args h v o h':=
 (Iz hp (cJ.I8 (NM hp n).1) (by rw[<-NS];exact Q)).2
end Go.Z
namespace Go.Z
open Go Go.Abs Go.Proofs
abbrev xL:=iX dN 1000
def fX:AVal:=.list H4 0 []
def ec:aK:=.cells [(fX,En),(fX,En),(.ay 2 0 1,En)]
def cN:AVal:=.int .i64 0
def zL:AVal:=.agg [cN,fX,fX,fX]
def iE:AVal:=.int .i64 1
def Kk:AVal:=.str [99,111,110,101,95,49]
def O0:AVal:=.str [99,111,110,101]
def B9:AVal:=.int .i64 10
def vF:AVal:=.bool En
def xv9:AVal:=.agg [Kk,O0,B9,B9,vF]
def WU:AVal:=.agg [iE,.list En 5 [xv9],fX,fX]
def lv1:List AVal:=[zL,WU]
def j2k:AVal:=.str [108,111,116]
def lv2:List AVal:=[Kk,O0]
def O1:AVal:=.agg [iE,j2k,.list En 1 lv2,.list En 1 [iE,B9],.str []]
def bv2:aK:=.vec 5 0 [O1]
def bv3:aK:=.cells [(.ay 7 1 2,En),(.ay 5 1 2,En),(.ay 2 2 3,En)]
def Gy:AVal:=.str [99,111,105,108,95,49]
def O2:AVal:=.str [99,111,105,108]
def Gz:AVal:=.int .i64 5
def j1e:AVal:=.agg [Gy,O2,Gz,Gz,vF]
def Cb:AVal:=.list En 5 [xv9,j1e]
def WV:AVal:=.agg [iE,Cb,fX,fX]
def lv3:List AVal:=lv1++[WV]
def bv4:aK:=.vec 4 2 lv3
def xg:AVal:=.int .i64 2
def lv4:List AVal:=[Gy,O2]
def WW:AVal:=.agg [xg,j2k,.list En 1 lv4,.list En 1 [iE,Gz],.str []]
def lv5:List AVal:=[O1,WW]
def O3:aK:=.vec 5 1 lv5
def bv6:aK:=.cells [(.ay 7 2 3,En),(.ay 5 2 3,En),(.ay 2 3 4,En)]
def vG:AVal:=.str [98,111,120]
def WX:AVal:=.agg [iE,Cb,.list En 4 [.agg [vG,fX,fX,fX]],fX]
def lv6:List AVal:=lv3++[WX]
def bv7:aK:=.vec 4 3 lv6
def tG:AVal:=.int .i64 3
def zj4:AVal:=.str [112,114,111,100,117,99,116]
def WY:AVal:=.list En 1 [vG]
def WZ:AVal:=.agg [tG,zj4,WY,.list En 1 [iE],.str []]
def lv7:List AVal:=lv5++[WZ]
def O4:aK:=.vec 5 2 lv7
def bv9:aK:=.cells [(.ay 7 3 4,En),(.ay 5 3 4,En),(.ay 2 4 5,En)]
def jwl:AVal:=.agg [O0,xg]
def W0:AVal:=.agg [iE,Cb,.list En 4 [.agg [vG,.list En 2 [jwl],fX,fX]],fX]
def lv8:List AVal:=lv6++[W0]
def jwi:aK:=.vec 4 4 lv8
def W1:AVal:=.int .i64 4
def jwu:AVal:=.str [110,101,101,100]
def W2:AVal:=.agg [W1,jwu,.list En 1 [vG,O0],.list En 1 [iE,xg],.str []]
def lv9:List AVal:=lv7++[W2]
def O5:aK:=.vec 5 3 lv9
def j1v:aK:=.cells [(.ay 7 4 5,En),(.ay 5 4 5,En),(.ay 2 5 6,En)]
def W3:AVal:=.list En 2 [jwl,.agg [O2,iE]]
def W4:AVal:=.agg [iE,Cb,.list En 4 [.agg [vG,W3,fX,fX]],fX]
def j0h:List AVal:=lv8++[W4]
def jyt:aK:=.vec 4 5 j0h
def W6:AVal:=.agg [Gz,jwu,.list En 1 [vG,O2],.list En 1 [iE,iE],.str []]
def j3a:List AVal:=lv9++[W6]
def O6:aK:=.vec 5 4 j3a
def jzp:aK:=.cells [(.ay 7 5 6,En),(.ay 5 5 6,En),(.ay 2 6 7,En)]
def zis:List AVal:=[vG,W3]
def Kl:AVal:=.str [115,119,101,101,112]
def j3b:AVal:=.int .i64 80
def j2q:AVal:=.int .i64 90
def j26:AVal:=.list En 3 [.agg [Kl,j3b,j2q]]
def W7:List AVal:=zis++[j26]
def W9:AVal:=.agg [iE,Cb,.list En 4 [.agg ((W7++[fX]))],fX]
def jv3:List AVal:=j0h++[W9]
def j0i:aK:=.vec 4 6 jv3
def j10:AVal:=.int .i64 6
def zc9:AVal:=.str [116,101,115,116]
def Xa:AVal:=.agg [j10,zc9,.list En 1 [vG,Kl],.list En 1 [iE,j3b,j2q],.str []]
def j15:List AVal:=j3a++[Xa]
def O7:aK:=.vec 5 5 j15
def j02:aK:=.cells [(.ay 7 6 7,En),(.ay 5 6 7,En),(.ay 2 7 8,En)]
def Xb:AVal:=.agg [W3,j26]
def Km:AVal:=.list En 4 [.agg ((W7++[.list En 2 [Xb]]))]
def Xc:AVal:=.agg [xg,Cb,Km,fX]
def j2t:List AVal:=jv3++[Xc]
def j0v:aK:=.vec 4 7 j2t
def jwc:AVal:=.int .i64 7
def jza:AVal:=.str [105,115,115,117,101]
def Xd:AVal:=.agg [jwc,jza,WY,.list En 1 [xg],.str []]
def j0j:List AVal:=j15++[Xd]
def O8:aK:=.vec 5 6 j0j
def j1o:aK:=.cells [(.ay 7 7 8,En),(.ay 5 7 8,En),(.ay 2 8 9,En)]
def Cc:AVal:=.str [117,49]
def Xe:AVal:=.agg [tG,Cb,Km,.list En 8 [.agg [Cc,vG,iE,fX,fX,.str [],vF,cN]]]
def j18:List AVal:=j2t++[Xe]
def jzf:aK:=.vec 4 8 j18
def Xf:AVal:=.int .i64 8
def zhg:AVal:=.str [98,117,105,108,100]
def Cd:List AVal:=[Cc,vG]
def tH:AVal:=.list En 1 [tG]
def Xg:AVal:=.agg [Xf,zhg,.list En 1 Cd,tH,.str []]
def j1w:List AVal:=j0j++[Xg]
def O9:aK:=.vec 5 7 j1w
def j13:aK:=.cells [(.ay 7 8 9,En),(.ay 5 8 9,En),(.ay 2 9 10,En)]
def Xh:AVal:=.agg ((lv2++[B9,Xf,vF]))
def jz1:AVal:=.agg [Kk,xg]
def Pa:AVal:=.agg [tG,.list En 5 [Xh,j1e],Km,.list En 8 [.agg ((Cd++[iE,.list En 2 [jz1],fX,.str [],vF,cN]))]]
def j0f:List AVal:=j18++[Pa]
def jw2:aK:=.vec 4 9 j0f
def j28:AVal:=.int .i64 9
def Xi:AVal:=.str [117,115,101]
def jzv:AVal:=.list En 1 [Cc,Kk]
def Xj:AVal:=.agg [j28,Xi,jzv,.list En 1 [tG,xg],.str []]
def j0o:List AVal:=j1w++[Xj]
def Pb:aK:=.vec 5 8 j0o
def Xk:aK:=.cells [(.ay 7 9 10,En),(.ay 5 9 10,En),(.ay 2 10 11,En)]
def zdi:List AVal:=lv4++[Gz]
def j2o:List AVal:=zdi++[W1]
def jyl:List AVal:=[tG,.list En 5 [Xh,.agg ((j2o++[vF]))]]
def Pc:List AVal:=jyl++[Km]
def Kn:AVal:=.list En 2 [jz1,.agg [Gy,iE]]
def Pd:AVal:=.agg ((Pc++[.list En 8 [.agg ((Cd++[iE,Kn,fX,.str [],vF,cN]))]]))
def jxg:List AVal:=j0f++[Pd]
def Xl:aK:=.vec 4 10 jxg
def jw3:AVal:=.list En 1 [tG,iE]
def Xm:AVal:=.agg [B9,Xi,.list En 1 [Cc,Gy],jw3,.str []]
def jyy:List AVal:=j0o++[Xm]
def GD:aK:=.vec 5 9 jyy
def Xn:aK:=.cells [(.ay 7 10 11,En),(.ay 5 10 11,En),(.ay 2 11 12,En)]
def jx3:List AVal:=[Kl,iE]
def jxb:AVal:=.int .i64 85
def j1b:AVal:=.agg ((jx3++[jxb]))
def Xo:AVal:=.list En 3 [j1b]
def Xp:AVal:=.list En 8 [.agg ((Cd++[iE,Kn,Xo,.str [],vF,cN]))]
def GF:AVal:=.agg ((Pc++[Xp]))
def Ko:List AVal:=jxg++[GF]
def Xq:aK:=.vec 4 11 Ko
def Xr:AVal:=.int .i64 11
def j2z:AVal:=.str [109,101,97,115,117,114,101]
def jz7:AVal:=.list En 1 [Cc,Kl]
def Xt:AVal:=.agg [Xr,j2z,jz7,.list En 1 [tG,jxb],.str []]
def Kp:List AVal:=jyy++[Xt]
def GG:aK:=.vec 5 10 Kp
def Xu:aK:=.cells [(.ay 7 11 12,En),(.ay 5 11 12,En),(.ay 2 12 13,En)]
def jxi:AVal:=.bool H4
def Xv:AVal:=.agg [tG,.list En 5 [Xh,.agg ((j2o++[jxi]))],Km,Xp]
def Kq:aK:=.vec 4 12 ((Ko++[Xv]))
def j2e:AVal:=.int .i64 12
def zki:AVal:=.str [104,111,108,100]
def jzn:AVal:=.list En 1 [Gy]
def Xw:AVal:=.agg [j2e,zki,jzn,tH,.str []]
def jwx:List AVal:=Kp++[Xw]
def zM:aK:=.vec 5 11 jwx
def jv5:aK:=.cells [(.ay 7 12 13,En),(.ay 5 11 11,En),(.ay 2 12 12,En)]
def Xx:AVal:=.int .i64 13
def Kr:AVal:=.str [117,110,100,111]
def Pe:AVal:=.list En 1 []
def jzq:AVal:=.agg [Xx,Kr,Pe,fX,.str []]
def j29:List AVal:=jwx++[jzq]
def jzz:aK:=.vec 5 12 j29
def jzb:aK:=.cells [(.ay 7 13 14,En),(.ay 5 12 12,En),(.ay 2 13 13,En)]
def jzu:List AVal:=jyl++[.list En 4 [.agg ((W7++[.list En 2 [Xb,Xb]]))]]
def Pg:AVal:=.agg ((jzu++[Xp]))
def jxm:List AVal:=Ko++[Pg]
def jx5:aK:=.vec 4 13 jxm
def jzw:AVal:=.int .i64 14
def Ph:AVal:=.agg [jzw,jza,WY,tH,.str []]
def jxt:List AVal:=Kp++[Ph]
def j1m:aK:=.vec 5 12 jxt
def jzo:List AVal:=j29++[Ph]
def j1l:aK:=.vec 5 13 jzo
def j2y:aK:=.cells [(.ay 7 14 15,En),(.ay 5 13 13,En),(.ay 2 14 14,En)]
def Xy:AVal:=.agg ((jzu++[.list En 8 [.agg ((Cd++[xg,Kn,Xo,.str [],vF,cN]))]]))
def GH:aK:=.vec 4 14 ((jxm++[Xy]))
def Xz:AVal:=.int .i64 15
def zhe:AVal:=.str [117,112,100,97,116,101]
def vH:AVal:=.list En 1 [Cc]
def Pj:AVal:=.agg [Xz,zhe,vH,tH,.str []]
def GI:aK:=.vec 5 13 ((jxt++[Pj]))
def j2a:List AVal:=jzo++[Pj]
def jxy:aK:=.vec 5 14 j2a
def jwv:aK:=.cells [(.ay 7 15 16,En),(.ay 5 13 12,En),(.ay 2 14 13,En)]
def XA:AVal:=.int .i64 16
def j01:AVal:=.agg [XA,Kr,Pe,fX,.str []]
def jzs:List AVal:=j2a++[j01]
def j0c:aK:=.vec 5 15 jzs
def jzl:aK:=.cells [(.ay 7 16 17,En),(.ay 5 13 11,En),(.ay 2 14 12,En)]
def j3d:AVal:=.int .i64 17
def j0d:AVal:=.agg [j3d,Kr,Pe,fX,.str []]
def jwn:List AVal:=jzs++[j0d]
def jwg:aK:=.vec 5 16 jwn
def jzc:aK:=.cells [(.ay 7 17 18,En),(.ay 5 14 12,En),(.ay 2 15 13,En)]
def j1j:AVal:=.int .i64 91
def XB:AVal:=.agg ((Pc++[.list En 8 [.agg ((Cd++[iE,Kn,.list En 3 [j1b,.agg ((jx3++[j1j]))],.str [],vF,cN]))]]))
def Ks:aK:=.vec 4 15 ((Ko++[XB]))
def jz0:AVal:=.int .i64 18
def Pk:AVal:=.agg [jz0,j2z,jz7,.list En 1 [tG,j1j],.str []]
def Kt:aK:=.vec 5 14 ((Kp++[Pk]))
def j2w:List AVal:=jwn++[Pk]
def j2p:aK:=.vec 5 17 j2w
def XD:aK:=.cells [(.ay 7 18 19,En),(.ay 5 14 11,En),(.ay 2 15 12,En)]
def Pl:AVal:=.int .i64 19
def jq4:AVal:=.agg [Pl,Kr,Pe,fX,.str []]
def jws:List AVal:=j2w++[jq4]
def XE:aK:=.vec 5 18 jws
def XF:aK:=.cells [(.ay 7 19 20,En),(.ay 5 15 12,En),(.ay 2 16 13,En)]
def XG:AVal:=.agg ((Pc++[.list En 8 [.agg ((Cd++[iE,Kn,Xo,.str [],jxi,cN]))]]))
def XH:aK:=.vec 4 16 ((Ko++[XG]))
def XI:AVal:=.int .i64 20
def Ce:AVal:=.str [115,104,105,112]
def Pm:AVal:=.agg [XI,Ce,vH,tH,.str []]
def XJ:aK:=.vec 5 15 ((Kp++[Pm]))
def j0s:List AVal:=jws++[Pm]
def XK:aK:=.vec 5 19 j0s
def j41:AVal:=.agg [B9,Ce,vH,tH,.str []]
def j7s:AVal:=.agg [Xr,Ce,vH,tH,.str []]
def jq9:AVal:=.int .i64 31
def XL:AVal:=.aJ [zL,jq9]
def j85:AVal:=.agg [Xx,Ce,vH,tH,.str []]
def jrb:AVal:=.int .i64 34
def j9a:AVal:=.agg [Xz,Ce,vH,tH,.str []]
def jq1:AVal:=.int .i64 32
def j4t:AVal:=.agg [XA,Ce,vH,tH,.str []]
def j8o:AVal:=.agg [Pl,Ce,vH,tH,.str []]
def XM:AVal:=.int .i64 21
def j69:AVal:=.agg [XM,Xi,jzv,jw3,.str []]
def XO:AVal:=.list En 5 j0s
def Cf:List AVal:=[.ptr 0 0,.str [115,104,105,112,32,117,49,32,51]]
def XP:AVal:=.aJ [.str [],jq9]
def jyr:List AVal:=[.ptr 0 0,.str [109,105,115,115,105,110,103,32,117,49]]
def jq0:AVal:=.aJ [.str [110,111,110,101],cN]
def jxe:List AVal:=[.ptr 0 0,.str [115,116,111,99,107,32,99,111,105,108]]
def Ku:List AVal:=[.ptr 0 0,Kr]
def jxq:List AVal:=[.ptr 0 0,.str [115,104,105,112,112,101,100]]
def hw1:qf:=[ec,ec,.vec 4 0 [zL]]
def hw2:qf:=[.cells [(.ay 7 0 1,En),(.ay 5 0 1,En),(.ay 2 1 2,En)],ec,.vec 4 1 lv1,.map jp,.map jd,bv2,.hole,bv2]
def hw3:qf:=[bv3,ec,bv4,.map jp,.map jd,O3,.hole,O3,.map jp,.map jd]
def hw4:qf:=[bv3,ec,bv4,.map jp,.map jd,O3,.hole,O3]
def hw5:qf:=[bv6,ec,bv7,.map jp,.map jd,O4,.hole,O4,.map jp,.map jd]
def hw6:qf:=[bv6,ec,bv7,.map jp,.map jd,O4,.hole,O4]
def hw7:qf:=[bv9,ec,jwi,.map jp,.map jd,O5,.hole,O5,.map jp,.map jd]
def hw8:qf:=[bv9,ec,jwi,.map jp,.map jd,O5,.hole,O5]
def hw9:qf:=[j1v,ec,jyt,.map jp,.map jd,O6,.hole,O6,.map jp,.map jd]
def zi5:qf:=[j1v,ec,jyt,.map jp,.map jd,O6,.hole,O6]
def zi4:qf:=[jzp,ec,j0i,.map jp,.map jd,O7,.hole,O7,.map jp,.map jd]
def zio:qf:=[jzp,ec,j0i,.map jp,.map jd,O7,.hole,O7]
def zkd:qf:=[j02,ec,j0v,.map jp,.map jd,O8,.hole,O8,.map jp,.map jd]
def zjf:qf:=[j02,ec,j0v,.map jp,.map jd,O8,.hole,O8]
def zdm:qf:=[j1o,ec,jzf,.map jp,.map jd,O9,.hole,O9,.map jp,.map jd]
def zh3:qf:=[j1o,ec,jzf,.map jp,.map jd,O9,.hole,O9]
def jx8:qf:=[j13,ec,jw2,.map jp,.map jd,Pb,.hole,Pb,.map jp,.map jd]
def jxp:qf:=[j13,ec,jw2,.map jp,.map jd,Pb,.hole,Pb]
def jyx:qf:=[Xk,ec,Xl,.map jp,.map jd,GD,.hole,GD,.map jp,.map jd]
def XQ:qf:=[Xk,ec,Xl,.map jp,.map jd,GD,.hole,GD]
def zh7:qf:=[Xk,ec,Xl,.map jp,.map jd,GD,.hole,GD,.map jp]
def zi6:qf:=[Xn,ec,Xq,.map jp,.map jd,GG,.hole,GG,.map jp,.map jd]
def j0q:qf:=[Xn,ec,Xq,.map jp,.map jd,GG,.hole,GG]
def zc0:qf:=[Xn,ec,Xq,.map jp,.map jd,GG,.hole,GG,.map jp]
def j00:qf:=[Xu,ec,Kq,.map jp,.map jd,zM,.hole,zM,.map jp,.map jd]
def XR:qf:=[Xu,ec,Kq,.map jp,.map jd,zM,.hole,zM]
def zfn:qf:=[Xu,ec,Kq,.map jp,.map jd,zM,.hole,zM,.map jp]
def zgo:qf:=[jv5,ec,Kq,.map jp,.map jd,zM,.hole,jzz,.map jp,.map jd]
def zj7:qf:=[jv5,ec,Kq,.map jp,.map jd,zM,.hole,jzz]
def j2x:qf:=[jzb,ec,jx5,.map jp,.map jd,j1m,.hole,j1l,.map jp,.map jd]
def j25:qf:=[jzb,ec,jx5,.map jp,.map jd,j1m,.hole,j1l]
def j0k:qf:=[j2y,ec,GH,.map jp,.map jd,GI,.hole,jxy,.map jp,.map jd]
def jzd:qf:=[j2y,ec,GH,.map jp,.map jd,GI,.hole,jxy]
def zhh:qf:=[jwv,ec,GH,.map jp,.map jd,GI,.hole,j0c,.map jp,.map jd]
def zcb:qf:=[jwv,ec,GH,.map jp,.map jd,GI,.hole,j0c]
def zck:qf:=[jzl,ec,GH,.map jp,.map jd,GI,.hole,jwg,.map jp,.map jd]
def zc5:qf:=[jzl,ec,GH,.map jp,.map jd,GI,.hole,jwg]
def jz9:qf:=[jzc,ec,Ks,.map jp,.map jd,Kt,.hole,j2p,.map jp,.map jd]
def jx7:qf:=[jzc,ec,Ks,.map jp,.map jd,Kt,.hole,j2p]
def zj8:qf:=[XD,ec,Ks,.map jp,.map jd,Kt,.hole,XE,.map jp,.map jd]
def Kv:qf:=[XD,ec,Ks,.map jp,.map jd,Kt,.hole,XE]
def Pn:qf:=[XD,ec,Ks,.map jp,.map jd,Kt,.hole,XE,.map jp]
def XS:qf:=[XF,ec,XH,.map jp,.map jd,XJ,.hole,XK,.map jp,.map jd]
def XT:qf:=[XF,ec,XH,.map jp,.map jd,XJ,.hole,XK]
def zdg:qf:=[XF,ec,XH,.map jp,.map jd,XJ,.hole,XK,.map jp]
def e3:Row:=([zL,O1],.aJ [WU,cN],En)
def e6:Row:=([WU,WW],.aJ [WV,cN],En)
def e9:Row:=([WV,WZ],.aJ [WX,cN],En)
def XU:Row:=([WX,W2],.aJ [W0,cN],En)
def XV:Row:=([W0,W6],.aJ [W4,cN],En)
def XW:Row:=([W4,Xa],.aJ [W9,cN],En)
def XX:Row:=([W9,Xd],.aJ [Xc,cN],En)
def XY:Row:=([Xc,Xg],.aJ [Xe,cN],En)
def XZ:Row:=([Xe,Xj],.aJ [Pa,cN],En)
def X0:Row:=([Pa,j41],.aJ [zL,XI],En)
def X2:Row:=([Pa,Xm],.aJ [Pd,cN],En)
def X3:Row:=([Pd,j7s],XL,En)
def X4:Row:=([Pd,Xt],.aJ [GF,cN],En)
def X5:Row:=([GF,Xw],.aJ [Xv,cN],En)
def X6:Row:=([Xv,j85],.aJ [zL,jrb],En)
def X7:Row:=([GF,Ph],.aJ [Pg,cN],En)
def X8:Row:=([Pg,j9a],.aJ [zL,jq1],En)
def X9:Row:=([Pg,Pj],.aJ [Xy,cN],En)
def Ya:Row:=([Xy,j4t],XL,En)
def Yb:Row:=([GF,Pk],.aJ [XB,cN],En)
def Yc:Row:=([XB,j8o],XL,En)
def Yd:Row:=([GF,Pm],.aJ [XG,cN],En)
def Ye:Row:=([XG,j69],.aJ [zL,XM],En)
def Yf:Row:=([.str [49,32,108,111,116,32,99,111,110,101,95,49,32,99,111,110,101,32,49,32,49,48,35,51,57,56,57,49,56,50],cN],.aJ [O1,cN],En)
def Yg:Row:=([.str [50,32,108,111,116,32,99,111,105,108,95,49,32,99,111,105,108,32,49,32,53,35,48,49,55,50,54,57,55],iE],.aJ [WW,cN],En)
def Yh:Row:=([.str [51,32,112,114,111,100,117,99,116,32,98,111,120,32,49,35,54,49,49,52,48,56,52],xg],.aJ [WZ,cN],En)
def Yi:Row:=([.str [52,32,110,101,101,100,32,98,111,120,32,99,111,110,101,32,49,32,50,35,49,55,56,55,50,51,49],tG],.aJ [W2,cN],En)
def Yj:Row:=([.str [53,32,110,101,101,100,32,98,111,120,32,99,111,105,108,32,49,32,49,35,50,52,55,55,51,52,50],W1],.aJ [W6,cN],En)
def Yk:Row:=([.str [54,32,116,101,115,116,32,98,111,120,32,115,119,101,101,112,32,49,32,56,48,32,57,48,35,50,48,50,49,51,55,56],Gz],.aJ [Xa,cN],En)
def Yl:Row:=([.str [55,32,105,115,115,117,101,32,98,111,120,32,50,35,57,55,57,50,54,57,53],j10],.aJ [Xd,cN],En)
def Ym:Row:=([.str [56,32,98,117,105,108,100,32,117,49,32,98,111,120,32,51,35,48,55,51,51,57,54,55],jwc],.aJ [Xg,cN],En)
def Yn:Row:=([.str [57,32,117,115,101,32,117,49,32,99,111,110,101,95,49,32,51,32,50,35,57,54,50,56,50,52,50],Xf],.aJ [Xj,cN],En)
def Yo:Row:=([.str [49,48,32,117,115,101,32,117,49,32,99,111,105,108,95,49,32,51,32,49,35,51,51,55,48,50,52,48],j28],.aJ [Xm,cN],En)
def Yp:Row:=([.str [49,49,32,109,101,97,115,117,114,101,32,117,49,32,115,119,101,101,112,32,51,32,56,53,35,56,50,52,48,49,52,56],B9],.aJ [Xt,cN],En)
def Yq:Row:=([.str [49,50,32,104,111,108,100,32,99,111,105,108,95,49,32,51,35,53,50,48,49,49,53,55],Xr],.aJ [Xw,cN],En)
def Yr:Row:=([.str [49,51,32,117,110,100,111,35,54,55,52,56,55,48,57],j2e],.aJ [jzq,cN],En)
def Ys:Row:=([.str [49,52,32,105,115,115,117,101,32,98,111,120,32,51,35,48,56,53,50,57,54,53],Xx],.aJ [Ph,cN],En)
def Yt:Row:=([.str [49,53,32,117,112,100,97,116,101,32,117,49,32,51,35,50,52,56,53,48,49,51],jzw],.aJ [Pj,cN],En)
def Yu:Row:=([.str [49,54,32,117,110,100,111,35,56,51,50,54,51,57,51],Xz],.aJ [j01,cN],En)
def Yv:Row:=([.str [49,55,32,117,110,100,111,35,50,49,56,53,54,57,53],XA],.aJ [j0d,cN],En)
def Yw:Row:=([.str [49,56,32,109,101,97,115,117,114,101,32,117,49,32,115,119,101,101,112,32,51,32,57,49,35,50,51,54,49,51,49,55],j3d],.aJ [Pk,cN],En)
def Yx:Row:=([.str [49,57,32,117,110,100,111,35,57,57,48,52,48,55,55],jz0],.aJ [jq4,cN],En)
def Yy:Row:=([.str [50,48,32,115,104,105,112,32,117,49,32,51,35,53,49,49,54,56,51,51],Pl],.aJ [Pm,cN],En)
def SQ:Row:=([XO,jzn],.aJ [vH,cN],En)
def SR:Row:=([XO,vH],.aJ [.list En 1 [Kk,Gy],cN],En)
def SU:Row:=([.str [49,32,108,111,116,32,99,111,110,101,95,49,32,99,111,110,101,32,49,32,49,48,35,51,57,56,57,49,56,50,10,50,32,108,111,116,32,99,111,105,108,95,49,32,99,111,105,108,32,49,32,53,35,48,49,55,50,54,57,55,10,51,32,112,114,111,100,117,99,116,32,98,111,120,32,49,35,54,49,49,52,48,56,52,10,52,32,110,101,101,100,32,98,111,120,32,99,111,110,101,32,49,32,50,35,49,55,56,55,50,51,49,10,53,32,110,101,101,100,32,98,111,120,32,99,111,105,108,32,49,32,49,35,50,52,55,55,51,52,50,10,54,32,116,101,115,116,32,98,111,120,32,115,119,101,101,112,32,49,32,56,48,32,57,48,35,50,48,50,49,51,55,56,10,55,32,105,115,115,117,101,32,98,111,120,32,50,35,57,55,57,50,54,57,53,10,56,32,98,117,105,108,100,32,117,49,32,98,111,120,32,51,35,48,55,51,51,57,54,55,10,57,32,117,115,101,32,117,49,32,99,111,110,101,95,49,32,51,32,50,35,57,54,50,56,50,52,50,10,49,48,32,117,115,101,32,117,49,32,99,111,105,108,95,49,32,51,32,49,35,51,51,55,48,50,52,48,10,49,49,32,109,101,97,115,117,114,101,32,117,49,32,115,119,101,101,112,32,51,32,56,53,35,56,50,52,48,49,52,56,10,49,50,32,104,111,108,100,32,99,111,105,108,95,49,32,51,35,53,50,48,49,49,53,55,10,49,51,32,117,110,100,111,35,54,55,52,56,55,48,57,10,49,52,32,105,115,115,117,101,32,98,111,120,32,51,35,48,56,53,50,57,54,53,10,49,53,32,117,112,100,97,116,101,32,117,49,32,51,35,50,52,56,53,48,49,51,10,49,54,32,117,110,100,111,35,56,51,50,54,51,57,51,10,49,55,32,117,110,100,111,35,50,49,56,53,54,57,53,10,49,56,32,109,101,97,115,117,114,101,32,117,49,32,115,119,101,101,112,32,51,32,57,49,35,50,51,54,49,51,49,55,10,49,57,32,117,110,100,111,35,57,57,48,52,48,55,55,10,50,48,32,115,104,105,112,32,117,49,32,51,35,53,49,49,54,56,51,51,10,49]],.aJ [XO,.int .i64 500,.int .i64 29],En)
def r1:kl:=([.ptr 0 0,.str [108,111,116,32,99,111,110,101,95,49,32,99,111,110,101,32,49,32,49,48]],hw1,.aJ [.str [100,111,110,101,32,49],cN],En,hw2)
def r2:kl:=([.ptr 0 0,.str [108,111,116,32,99,111,105,108,95,49,32,99,111,105,108,32,49,32,53]],hw2,.aJ [.str [100,111,110,101,32,50],cN],En,hw3)
def r3:kl:=([.ptr 0 0,.str [112,114,111,100,117,99,116,32,98,111,120,32,49]],hw4,.aJ [.str [100,111,110,101,32,51],cN],En,hw5)
def r4:kl:=([.ptr 0 0,.str [110,101,101,100,32,98,111,120,32,99,111,110,101,32,49,32,50]],hw6,.aJ [.str [100,111,110,101,32,52],cN],En,hw7)
def r5:kl:=([.ptr 0 0,.str [110,101,101,100,32,98,111,120,32,99,111,105,108,32,49,32,49]],hw8,.aJ [.str [100,111,110,101,32,53],cN],En,hw9)
def r6:kl:=([.ptr 0 0,.str [116,101,115,116,32,98,111,120,32,115,119,101,101,112,32,49,32,56,48,32,57,48]],zi5,.aJ [.str [100,111,110,101,32,54],cN],En,zi4)
def r7:kl:=([.ptr 0 0,.str [105,115,115,117,101,32,98,111,120,32,50]],zio,.aJ [.str [100,111,110,101,32,55],cN],En,zkd)
def r8:kl:=([.ptr 0 0,.str [98,117,105,108,100,32,117,49,32,98,111,120,32,51]],zjf,.aJ [.str [100,111,110,101,32,56],cN],En,zdm)
def r9:kl:=([.ptr 0 0,.str [117,115,101,32,117,49,32,99,111,110,101,95,49,32,51,32,50]],zh3,.aJ [.str [100,111,110,101,32,57],cN],En,jx8)
def Mu:kl:=(Cf,jxp,.aJ [.str [],XI],En,jx8)
def My:kl:=([.ptr 0 0,.str [117,115,101,32,117,49,32,99,111,105,108,95,49,32,51,32,49]],jxp,.aJ [.str [100,111,110,101,32,49,48],cN],En,jyx)
def MC:kl:=(Cf,XQ,XP,En,jyx)
def MG:kl:=(jyr,XQ,.aJ [Kl,cN],En,zh7)
def MJ:kl:=([.ptr 0 0,.str [109,101,97,115,117,114,101,32,117,49,32,115,119,101,101,112,32,51,32,56,53]],XQ,.aJ [.str [100,111,110,101,32,49,49],cN],En,zi6)
def MN:kl:=(jyr,j0q,jq0,En,zc0)
def MQ:kl:=([.ptr 0 0,.str [104,111,108,100,32,99,111,105,108,95,49,32,51]],j0q,.aJ [.str [100,111,110,101,32,49,50],cN],En,j00)
def Mr:kl:=(Cf,XR,.aJ [.str [],jrb],En,j00)
def Mv:kl:=(jxe,XR,.aJ [.str [48],cN],En,zfn)
def Mz:kl:=(Ku,XR,.aJ [.str [100,111,110,101,32,49,51],cN],En,zgo)
def MD:kl:=([.ptr 0 0,.str [105,115,115,117,101,32,98,111,120,32,51]],zj7,.aJ [.str [100,111,110,101,32,49,52],cN],En,j2x)
def MH:kl:=(Cf,j25,.aJ [.str [],jq1],En,j2x)
def MK:kl:=([.ptr 0 0,.str [117,112,100,97,116,101,32,117,49,32,51]],j25,.aJ [.str [100,111,110,101,32,49,53],cN],En,j0k)
def MO:kl:=(Cf,jzd,XP,En,j0k)
def MR:kl:=(Ku,jzd,.aJ [.str [100,111,110,101,32,49,54],cN],En,zhh)
def Ms:kl:=(Ku,zcb,.aJ [.str [100,111,110,101,32,49,55],cN],En,zck)
def Mw:kl:=([.ptr 0 0,.str [109,101,97,115,117,114,101,32,117,49,32,115,119,101,101,112,32,51,32,57,49]],zc5,.aJ [.str [100,111,110,101,32,49,56],cN],En,jz9)
def MA:kl:=(Cf,jx7,XP,En,jz9)
def ME:kl:=(Ku,jx7,.aJ [.str [100,111,110,101,32,49,57],cN],En,zj8)
def MI:kl:=([.ptr 0 0,.str [108,111,116,115,32,117,49]],Kv,.aJ [.str [99,111,110,101,95,49,32,99,111,105,108,95,49],cN],En,Pn)
def ML:kl:=([.ptr 0 0,.str [115,116,111,99,107,32,99,111,110,101]],Kv,.aJ [.str [56],cN],En,Pn)
def MP:kl:=(jxe,Kv,.aJ [.str [52],cN],En,Pn)
def MS:kl:=(jxq,Kv,jq0,En,Pn)
def Mt:kl:=(Cf,Kv,.aJ [.str [100,111,110,101,32,50,48],cN],En,XS)
def Mx:kl:=(Ku,XT,.aJ [.str [],Pl],En,XS)
def MB:kl:=([.ptr 0 0,.str [117,115,101,32,117,49,32,99,111,110,101,95,49,32,51,32,49]],XT,.aJ [.str [],XM],En,XS)
def MF:kl:=(jxq,XT,.aJ [Cc,cN],En,zdg)
theorem w21:ae dN xL 129 XX.1=Ha XX.2:=by kernel_rfl
theorem w56:ae dN xL 129 X9.1=Ha X9.2:=by kernel_rfl
theorem w74:ae dN xL 129 Yd.1=Ha Yd.2:=by kernel_rfl
theorem zhr:ae dN xL 53 Yg.1=Ha Yg.2:=by kernel_rfl
theorem zg6:ae dN xL 53 Yo.1=Ha Yo.2:=by kernel_rfl
theorem zkf:ae dN xL 53 Yu.1=Ha Yu.2:=by kernel_rfl
theorem w18:ae dN xL 129 XW.1=Ha XW.2:=by kernel_rfl
theorem w45:ae dN xL 129 X6.1=Ha X6.2:=by kernel_rfl
theorem w53:ae dN xL 129 X8.1=Ha X8.2:=by kernel_rfl
theorem zjg:ae dN xL 53 Yi.1=Ha Yi.2:=by kernel_rfl
theorem zef:ae dN xL 53 Yq.1=Ha Yq.2:=by kernel_rfl
theorem zf6:ae dN xL 53 Yv.1=Ha Yv.2:=by kernel_rfl
theorem pz:ae dN xL 129 XV.1=Ha XV.2:=by kernel_rfl
theorem w39:ae dN xL 129 X4.1=Ha X4.2:=by kernel_rfl
theorem w59:ae dN xL 129 Ya.1=Ha Ya.2:=by kernel_rfl
theorem zi9:ae dN xL 53 Yf.1=Ha Yf.2:=by kernel_rfl
theorem zj2:ae dN xL 53 Yj.1=Ha Yj.2:=by kernel_rfl
theorem zdw:ae dN xL 53 Yl.1=Ha Yl.2:=by kernel_rfl
theorem zhf:ae dN xL 53 Ym.1=Ha Ym.2:=by kernel_rfl
theorem zgz:ae dN xL 53 Yx.1=Ha Yx.2:=by kernel_rfl
theorem vI:ae dN xL 129 XU.1=Ha XU.2:=by kernel_rfl
theorem tI:ae dN xL 129 X3.1=Ha X3.2:=by kernel_rfl
theorem w69:ae dN xL 129 Yc.1=Ha Yc.2:=by kernel_rfl
theorem zgn:ae dN xL 53 Yh.1=Ha Yh.2:=by kernel_rfl
theorem zjq:ae dN xL 53 Yp.1=Ha Yp.2:=by kernel_rfl
theorem w9:ae dN xL 129 e9.1=Ha e9.2:=by kernel_rfl
theorem w33:ae dN xL 129 X2.1=Ha X2.2:=by kernel_rfl
theorem w66:ae dN xL 129 Yb.1=Ha Yb.2:=by kernel_rfl
theorem zfl:ae dN xL 53 Yw.1=Ha Yw.2:=by kernel_rfl
theorem w6:ae dN xL 129 e6.1=Ha e6.2:=by kernel_rfl
theorem pA:ae dN xL 129 X0.1=Ha X0.2:=by kernel_rfl
theorem w79:ae dN xL 129 Ye.1=Ha Ye.2:=by kernel_rfl
theorem zgt:ae dN xL 53 Yk.1=Ha Yk.2:=by kernel_rfl
theorem zeq:ae dN xL 53 Yn.1=Ha Yn.2:=by kernel_rfl
theorem zen:ae dN xL 53 Ys.1=Ha Ys.2:=by kernel_rfl
theorem zke:ae dN xL 53 Yy.1=Ha Yy.2:=by kernel_rfl
theorem w3:ae dN xL 129 e3.1=Ha e3.2:=by kernel_rfl
theorem w27:ae dN xL 129 XZ.1=Ha XZ.2:=by kernel_rfl
theorem qF:ae dN xL 129 X5.1=Ha X5.2:=by kernel_rfl
theorem zh8:ae dN xL 53 Yt.1=Ha Yt.2:=by kernel_rfl
theorem w24:ae dN xL 129 XY.1=Ha XY.2:=by kernel_rfl
theorem w50:ae dN xL 129 X7.1=Ha X7.2:=by kernel_rfl
theorem zjk:ae dN xL 53 Yr.1=Ha Yr.2:=by kernel_rfl
end Go.Z
namespace Go.Z
open Go Go.Abs Go.Proofs
def Yz:List (Nat×List Row):=[(53,[Yf,Yg,Yh,Yi,Yj,Yk,Yl,Ym,Yn,Yo,Yp,Yq,Yr,Ys,Yt,Yu,Yv,Yw,Yx,Yy]),(129,[e3,e6,e9,XU,XV,XW,XX,XY,XZ,X0,X2,X3,X4,X5,X6,X7,X8,X9,Ya,Yb,Yc,Yd,Ye])]
def tab:Nat->ak Row:=xF Yz
theorem j8f:SW Tryz.prog tab:=
 SX (t:=Yz) ⟨⟨jj dP zi9,jj dP zhr,jj dP zgn,jj dP zjg,jj dP zj2,jj dP zgt,jj dP zdw,jj dP zhf,jj dP zeq,jj dP zg6,jj dP zjq,jj dP zef,jj dP zjk,jj dP zen,jj dP zh8,jj dP zkf,jj dP zf6,jj dP zfl,jj dP zgz,jj dP zke,trivial⟩,⟨jj dP w3,jj dP w6,jj dP w9,jj dP vI,jj dP pz,jj dP w18,jj dP w21,jj dP w24,jj dP w27,jj dP pA,jj dP w33,jj dP tI,jj dP w39,jj dP qF,jj dP w45,jj dP w50,jj dP w53,jj dP w56,jj dP w59,jj dP w66,jj dP w69,jj dP w74,jj dP w79,trivial⟩,trivial⟩
def dZ:j8:={ br:=dN.br,cB:=fun k=>match tab k with
 |some l=>Ha fun args=>Fm args l
 |none=>Kh k,cF:=dN.cF,maps:=dN.maps }
theorem dS:bX Tryz.prog dZ where
 fn:=dP.fn
 fM:=by
  intro k f hf;simp only[dZ]at hf;split at hf
  .rename_i l hl;cases hf;exact⟨ui (SY Yz (by kernel_rfl) k l hl),fun args v o hv _ _=>j8f k l hl _ (SZ hv)⟩
  .exact dP.fM k f hf
 mixed:=dP.mixed
 eU:=dP.eU
 maps:=dP.maps
abbrev xA:=iX dZ 1000
end Go.Z
end
