/- The library's functions in the abstract machine. -/
import Derived.Test.YtoaianfagfampaaGreatDoorZS
import Derived.Test.YtoaianfagfampaaGreatDoorZP
import Derived.Lib.AppendIntMem
import Derived.Test.YtoaianfagfampaaGreatDoorL1
set_option linter.all false
set_option maxRecDepth 100000
noncomputable section
open Nat renaming eq_of_beq_eq_true->Eb,le_of_ble_eq_true->En,beq->Ep,blt->E9,ble->G0,le_refl->G7,blt_eq->Ha
open Bool renaming false->Eg,false_eq_true->E8,cond_eq_ite->G1,and_eq_true->He
open Option renaming some->Eh,none->E4
open List renaming cons_append->E3,length_map->G4,isPrefixOf->G5,length_singleton->G8,length_append->Hb,flatten_cons->Hc,length_cons->Hd,map_cons->Hf,mem_map->Hg,map_map->Hk
namespace Go.Z
open Go Go.Abs Go.Proofs Go.RowKit
theorem q7x {C}:∀(l:List ByteArray),bf C (l.map fun s=>.str s.data.toList) (l.map Value.string)
 | []=>.nil|s::l=>.cons _ _ _ _ (show bS C (.str s.data.toList) (.string s)from .str _) (q7x l)
theorem q8k {C r}:∀ {ss:List aj} {o:Nat},bA C r 1 (ss.map AVal.str) o->∀(j:Nat) s,ss[j]?=Eh s->C.K r (o+j)=Eh (.string ⟨⟨s⟩⟩)
 | [],o,_,j,s,hj=>by simp at hj
 |x::ss,o,h,j,s,hj=>by
  cases h with
  |dr _ _ _ _ _ G M Q=>
   cases j with
   |zero=>
    simp only[List.getElem?_cons_zero,Eh.injEq]at hj;subst hj
    cases M with
    |dC _ _ _ _ u hv hu _=>
     rw[Nat.add_zero,hv,bS.cy hu]
   |succ j=>
    have:=q8k Q j s (by simpa using hj);rw[show o+(j+1)=o+1+j by omega];exact this
theorem UU {w w'}(h:Below w.heap.size w w'):Ext w w':=⟨h.size,h.block,h.os,h.output⟩
theorem jin {n}(h0:-9223372036854775808<=n)(Y:n<=9223372036854775807):IsoCall Tryz.prog 26 [.int .i64 n] (.str (Lib.itoa n)) Eg:=by
 refine IE fun K w vs ht hk Q=>?_
 cases Q with
 |cons _ _ v vs M Q=>
  cases Q;obtain rfl:=bS.bU M
  have hg:Tryz.prog.globalNamed pu=Eh 1:=by kernel_rfl
  refine⟨.string ⟨⟨Lib.itoa n⟩⟩,.str _,(Tryz.strconv_Itoa n h0 Y w (ht.table hg)).mono ?_⟩;rintro e w' ⟨rfl,k,os,rfl⟩;exact⟨rfl,UU (Lib.below_grow w.heap.size w (G7 _) k os)⟩
theorem q3s {s c}:IsoCall Tryz.prog 235 [.str s,.int .u8 c] (.int .i64 (Lib.indexByte s c.toNat.toUInt8)) Eg:=by
 refine IE fun K w vs ht hk Q=>?_
 cases Q with
 |cons _ _ v vs M Q=>
  cases Q with
  |cons _ _ v2 vs hJ Q=>
   cases Q;obtain rfl:=bS.cy M;obtain rfl:=bS.bU hJ;refine⟨_,.int _ _,(Tryz.stringslite_IndexByte ⟨⟨s⟩⟩ c w).mono ?_⟩;rintro e w' ⟨rfl,rfl⟩;exact⟨rfl,Ext.refl _⟩
theorem jg8 {s p}(G:s.length<4294967281)(hp:1<=p.length):IsoCall Tryz.prog 19 [.str s,.str p] (.list Eg 1 ((Lib.splitB ⟨⟨p⟩⟩ 0 (Lib.countB ⟨⟨s⟩⟩ ⟨⟨p⟩⟩) ⟨⟨s⟩⟩).map fun x=>.str x.data.toList)) Eg:=by
 refine jk9 (us:=(Lib.splitB ⟨⟨p⟩⟩ 0 (Lib.countB ⟨⟨s⟩⟩ ⟨⟨p⟩⟩) ⟨⟨s⟩⟩).map Value.string) (t:=9) (fun x M=>?_) (fun K=>q7x _) (fun u hu=>?_) fun K w vs ht hk Q=>?_
 .obtain⟨y,_,rfl⟩:=Hg.1 M;rfl
 .obtain⟨y,_,rfl⟩:=Hg.1 hu;rfl
 .cases Q with
  |cons _ _ v vs M Q=>
   cases Q with
   |cons _ _ v2 vs hJ Q=>
    cases Q;obtain rfl:=bS.cy M;obtain rfl:=bS.cy hJ
    have hg0:Tryz.prog.globalNamed Al=Eh 0:=by kernel_rfl
    obtain⟨m,hm⟩:=ht.length hg0;refine(Tryz.strings_Split ⟨⟨s⟩⟩ ⟨⟨p⟩⟩ m w G hm hp).mono ?_;rintro e w' ⟨rfl,rfl⟩;refine⟨?_,rfl⟩;rw[G4,Lib.splitB_all ⟨⟨p⟩⟩ hp 0 _ ⟨⟨s⟩⟩ rfl]
theorem jj4 {ss p}(bI:ss≠[])(hN:ss.length<=140737488355328)(hlen:(Lib.join ss p).length<=140737488355328):IsoCall Tryz.prog 29 [.list Eg 1 (ss.map .str),.str p] (.str (Lib.join ss p)) Eg:=by
 refine IE fun K w vs ht hk Q=>?_
 cases Q with
 |cons _ _ v vs M Q=>
  cases Q with
  |cons _ _ v2 vs hJ Q=>
   cases Q;obtain rfl:=bS.cy hJ
   have hl:∃r o cap,v=.slice (Eh ⟨r,o,E4⟩) (ss.map AVal.str).length cap/\(ss.map AVal.str).length<=cap/\bA (.bZ K) r 1 (ss.map .str) o:=by
    generalize hq:ss.map AVal.str=q at M
    cases M with
    |list _ _ r o cap hl cY=>exact⟨r,o,cap,rfl,hl,cY⟩|jA _ a G=>exact absurd (List.map_eq_nil_iff.1 hq) bI
   obtain⟨r,o,cap,rfl,hcap,cY⟩:=hl
   have l6:(ss.map fun s=>(⟨⟨s⟩⟩:ByteArray)).map (·.data.toList)=ss:=by
    rw[Hk];exact List.map_id' _
   have hcells:∀(j:Nat) x,(ss.map fun s=>(⟨⟨s⟩⟩:ByteArray))[j]?=Eh x->w.cell? ⟨r,o+j,E4⟩=Eh (.string x):=by
    intro j x hj;rw[List.getElem?_map,Option.map_eq_some_iff]at hj;obtain⟨s,G,rfl⟩:=hj;exact hk _ _ _ (q8k cY j s G)
   have hbk:r<w.heap.size:=by
    cases rZ:ss with
    |nil=>exact absurd rZ bI
    |cons s l=>
     have:=hcells 0 ⟨⟨s⟩⟩ (by rw[rZ];rfl);rcases Nat.lt_or_ge r w.heap.size with h|h
     .exact h
     .simp[World.cell?,Array.getElem?_eq_none h]at this
   have hj:=Tryz.strings_Join r o cap (ss.map fun s=>(⟨⟨s⟩⟩:ByteArray)) ⟨⟨p⟩⟩ w hcells hbk (by simpa using hN) (by simpa using hcap) (by rw[l6];exact hlen);rw[l6,G4]at hj;rw[G4];refine⟨.string ⟨⟨Lib.join ss p⟩⟩,.str _,hj.mono ?_⟩;rintro e w' ⟨rfl,hb⟩;exact⟨rfl,UU hb⟩
theorem jcw {s:aj}{c}(hc:c<=9223372036854775807)(hlen:s.length*c<=140737488355328):IsoCall Tryz.prog 175 [.str s,.int .i64 (c:Int)] (.str (Lib.repeatL s c)) Eg:=by
 refine IE fun K w vs ht hk Q=>?_
 cases Q with
 |cons _ _ v vs M Q=>
  cases Q with
  |cons _ _ v2 vs hJ Q=>
   cases Q;obtain rfl:=bS.cy M;obtain rfl:=bS.bU hJ;refine⟨.string ⟨⟨Lib.repeatL s c⟩⟩,.str _,(Tryz.strings_Repeat ⟨⟨s⟩⟩ c w hc hlen).mono ?_⟩;rintro e w' ⟨rfl,hb⟩;exact⟨rfl,UU hb⟩
theorem q3q {p}:IsoCall Tryz.prog 29 [.list true 0 [],.str p] (.str []) Eg:=by
 refine IE fun K w vs ht hk Q=>?_
 cases Q with
 |cons _ _ v vs M Q=>
  cases Q with
  |cons _ _ v2 vs hJ Q=>
   cases Q;obtain rfl:=bS.cy hJ;cases M;refine⟨.string ⟨#[]⟩,.str _,(Tryz.strings_Join_none _ _ ⟨⟨p⟩⟩ w).mono ?_⟩;rintro e w' ⟨rfl,rfl⟩;exact⟨rfl,Ext.refl _⟩
end Go.Z
namespace Go.Z
open Go Go.Abs Go.Proofs
def wK (c:UInt8)(acc:aj):aj->List aj
 | []=>[acc]
 |x::t=>if x=c then acc::wK c [] t else wK c (acc++[x]) t
def eR (c:UInt8)(s:aj):List aj:=wK c [] s
theorem q9s {c}:∀ {s:aj} {acc:aj},c ∉ s->wK c acc s=[acc++s]
 | [],acc,_=>by simp[wK]
 |x::t,acc,h=>by
  have Y:x≠c:=fun e=>h (by simp[e]);have I:c ∉ t:=fun e=>h (by simp[e]);rw[wK,if_neg Y,q9s I];simp
theorem jae {c}:∀ {a b acc:aj},c ∉ a->wK c acc (a++c::b)=(acc++a)::eR c b
 | [],b,acc,_=>by simp[wK,eR]
 |x::t,b,acc,h=>by
  have Y:x≠c:=fun e=>h (by simp[e]);have I:c ∉ t:=fun e=>h (by simp[e]);rw[E3,wK,if_neg Y,jae I];simp
theorem sZ {c s}(h:c ∉ s):eR c s=[s]:=q9s h
theorem wM {c a b}(h:c ∉ a):eR c (a++c::b)=a::eR c b:=jae h
theorem Ny (c:UInt8)(s:aj):c ∉ s\/∃a b,s=a++c::b/\c ∉ a:=by
 by_cases h:c∈s
 .obtain⟨a,b,Y,I⟩:=List.eq_append_cons_of_mem h;exact .inr ⟨a,b,Y,I⟩
 .exact .inl h
theorem JB {c:UInt8}{P:aj->Prop}(h0:∀s,c ∉ s->P s)(Y:∀a b,c ∉ a->P b->P (a++c::b)):∀(n:Nat) (s:aj),s.length<=n->P s
 |0,s,hn=>h0 s (by rw[List.length_eq_zero_iff.1 (by omega:s.length=0)];simp)
 |n+1,s,hn=>by
  rcases Ny c s with h|⟨a,b,rfl,h⟩
  .exact h0 s h
  .exact Y a b h (JB h0 Y n b (by simp only[Hb,Hd]at hn;omega))
theorem JC (c:UInt8)(s:aj):eR c s≠[]:=by
 rcases Ny c s with h|⟨a,b,rfl,h⟩
 .rw[sZ h];simp
 .rw[wM h];simp
theorem q97 (c:UInt8)(s:aj):(eR c s).length<=s.length+1:=by
 refine JB (c:=c) (P:=fun s=>(eR c s).length<=s.length+1) ?_ ?_ s.length s (G7 _)
 .intro s h;rw[sZ h];simp
 .intro a b h ih;rw[wM h];simp only[Hb,Hd];omega
theorem jjy (c:UInt8)(s:aj):Lib.join (eR c s) [c]=s:=by
 refine JB (c:=c) (P:=fun s=>Lib.join (eR c s) [c]=s) ?_ ?_ s.length s (G7 _)
 .intro s h;rw[sZ h,Lib.join_one]
 .intro a b h ih;rw[wM h]
  cases hb:eR c b with
  |nil=>exact absurd hb (JC c b)
  |cons x r=>
   rw[hb]at ih;rw[Lib.join_cons];rw[Lib.join_cons]at ih;simp only[Lib.joinTail,Hf,Hc]at ih ⊢;rw[<-ih];simp
theorem UW (c:UInt8):∀(x:aj) (r:List aj),c ∉ x->(∀y∈r,c ∉ y)->eR c (Lib.join (x::r) [c])=x::r
 |x,[],M,_=>by rw[Lib.join_one,sZ M]
 |x,y::r,M,Q=>by
  have ih:=UW c y r (Q y (by simp)) (fun z hz=>Q z (by simp[hz]));rw[Lib.join_cons]at ih ⊢;simp only[Lib.joinTail,Hf,Hc,E3,List.nil_append]at ih ⊢;rw[wM M,ih]
theorem q62 {c}:∀ {s:aj},c ∉ s->Lib.index s [c]=-1
 | [],_=>rfl
 |x::t,h=>by
  have Y:x≠c:=fun e=>h (by simp[e]);have I:c ∉ t:=fun e=>h (by simp[e])
  have hp:([c]:aj).isPrefixOf (x::t)=Eg:=by simp[G5,Ne.symm Y]
  rw[Lib.index,hp,q62 I];rfl
theorem q7b {c}:∀ {a b:aj},c ∉ a->Lib.index (a++c::b) [c]=(a.length:Int)
 | [],b,_=>by simp[Lib.index,G5]
 |x::t,b,h=>by
  have Y:x≠c:=fun e=>h (by simp[e]);have I:c ∉ t:=fun e=>h (by simp[e])
  have hp:([c]:aj).isPrefixOf (x::(t++c::b))=Eg:=by simp[G5,Ne.symm Y]
  have bI:((t.length:Int) == -1)=Eg:=by simp
  rw[E3,Lib.index,hp,q7b I,bI];simp
theorem q99 {c}:∀ {s:aj},c ∉ s->Lib.indexByte s c=-1
 | [],_=>rfl
 |x::t,h=>by
  have Y:x≠c:=fun e=>h (by simp[e]);have I:c ∉ t:=fun e=>h (by simp[e]);rw[Lib.indexByte,if_neg (by simpa using Y),q99 I];rfl
theorem UX {c}:∀ {a b:aj},c ∉ a->Lib.indexByte (a++c::b) c=(a.length:Int)
 | [],b,_=>by simp[Lib.indexByte]
 |x::t,b,h=>by
  have Y:x≠c:=fun e=>h (by simp[e]);have I:c ∉ t:=fun e=>h (by simp[e])
  have bI:((t.length:Int) == -1)=Eg:=by simp
  rw[E3,Lib.indexByte,if_neg (by simpa using Y),UX I,bI];simp
theorem jjk (c:UInt8)(s:aj):Lib.split s [c]=eR c s:=by
 refine JB (c:=c) (P:=fun s=>Lib.split s [c]=eR c s) ?_ ?_ s.length s (G7 _)
 .intro s h;rw[sZ h,Lib.split,Lib.count_miss (q62 h)];rfl
 .intro a b h ih;have hi:=q7b (b:=b) h
  have hd:(a++c::b).drop (a.length+1)=b:=by
   rw[show a++c::b=(a++[c])++b by simp,show a.length+1=(a++[c]).length by simp,List.drop_left]
  have hm:((a.length:Int) == -1)=Eg:=by simp
  rw[wM h,Lib.split,Lib.count_hit (by simp) hi];simp only[G8,hd,Nat.add_comm 1];rw[Lib.splitK,hi,hm];simp only[E8,if_false,Int.toNat_natCast,Nat.add_zero,G8,hd];rw[List.take_left',<-ih]; · rfl
  .rfl
def FK (c:UInt8):aj->Nat->Int
 | [],_=>-1|b::l,n=>bif b == c then(n:Int)else FK c l (n+1)
theorem jac (c:UInt8):∀(l:aj) (n:Nat),FK c l n=if Lib.indexByte l c == -1 then -1 else Lib.indexByte l c+n
 | [],n=>rfl
 |b::l,n=>by
  have oJ:=Lib.indexByte_ge l c;rw[FK,Lib.indexByte,jac c l (n+1)]
  cases hb:(b == c)with
  |true=>simp
  |false=>
   simp only[cond_false,E8,if_false];by_cases h:Lib.indexByte l c=-1
   .simp[h]
   .have Y:(Lib.indexByte l c == -1)=Eg:=by simpa using h
    have I:(Lib.indexByte l c+1 == -1)=Eg:=by simp;omega
    simp only[Y,I,E8,if_false];omega
theorem q3i (c:UInt8)(l:aj):FK c l 0=Lib.indexByte l c:=by
 rw[jac];by_cases h:Lib.indexByte l c=-1
 .simp[h]
 .have Y:(Lib.indexByte l c == -1)=Eg:=by simpa using h
  simp[Y]
def FL:Nat->Nat->aj->aj
 |0,_,acc=>acc|f+1,u,acc=>bif E9 u 10 then UInt8.ofNat (48+u)::acc else FL f (u / 10) (UInt8.ofNat (48+u % 10)::acc)
theorem UY:∀ (f u:Nat) (acc:aj),u<10^f->0<f->FL f u acc=Lib.decDigits u++acc
 |0,_,_,_,h=>by omega
 |f+1,u,acc,hu,_=>by
  rw[FL,Lib.decDigits];by_cases h:u<10
  .rw[Ha.mpr h];simp[h]
  .have hb:E9 u 10=Eg:=by
    cases hh:E9 u 10 with
    |false=>rfl|true=>exact absurd (Ha.mp hh) h
   have hf:0<f:=by
    rcases Nat.eq_zero_or_pos f with rfl|Y
    .simp at hu;omega
    .exact Y
   rw[hb,dif_neg h];simp only[cond_false];rw[UY f (u / 10) _ (by rw[Nat.pow_succ]at hu;omega) hf];simp
def FM:List AVal->ak aj
 | []=>Eh []
 | .str s::l=>match FM l with
  |some r=>Eh (s::r)|none=>E4
 |_=>E4
theorem q3a:∀ {l:List AVal} {r:List aj},FM l=Eh r->l=r.map .str
 | [],r,h=>by cases h;rfl
 | .str s::l,r,h=>by
  simp only[FM]at h;split at h
  .rename_i q hq;cases h;rw[q3a hq];rfl
  .cases h
 | .bool _::_,_,h | .int ..::_,_,h | .list ..::_,_,h | .ms ..::_,_,h | .ptr ..::_,_,h | .aq _::_,_,h | .cC::_,_,h | .map _::_,_,h | .cD::_,_,h | .fn ..::_,_,h | .cO::_,_,h | .agg _::_,_,h | .bq _::_,_,h | .undef::_,_,h | .any::_,_,h | .az ..::_,_,h | .dN ..::_,_,h | .dG _::_,_,h=>by cases h
def Nz:List AVal->Option (AVal×Bool)
 | [.str s,.int .u8 (.ofNat c)]=>Eh (.int .i64 (FK (UInt8.ofNat c) s 0),Eg)|_=>E4
def JD:List AVal->Option (AVal×Bool)
 | [.str s,.str [c]]=>bif E9 s.length 4294967281 then Eh (.list Eg 1 ((eR c s).map .str),Eg)else E4|_=>E4
def t99:List AVal->Option (AVal×Bool)
 | [.list true 0 [],.str _]=>Eh (.str [],Eg)
 | [.list Eg 1 l,.str p]=>match FM l with
  |some (s::ss)=>bif G0 (s::ss).length 100000&&G0 (p.intercalate (s::ss)).length 100000000 then Eh (.str (p.intercalate (s::ss)),Eg)else E4|_=>E4
 |_=>E4
def yS:List AVal->Option (AVal×Bool)
 | [.int .i64 (.ofNat n)]=>bif E9 n 1000000000000000000 then Eh (.str (FL 18 n []),Eg)else E4|_=>E4
def JE:List AVal->Option (AVal×Bool)
 | [.str s,.int .i64 (.ofNat c)]=>bif G0 c 100000&&G0 (s.length*c) 100000 then Eh (.str (Lib.repeatL s c),Eg)else E4|_=>E4
theorem jot {args v o}(h:Nz args=Eh (v,o)):IsoCall Tryz.prog 235 args v o:=by
 unfold Nz at h;split at h
 .rename_i s c;cases h;rw[q3i];exact q3s (s:=s) (c:=Int.ofNat c)
 .cases h
theorem jqi {args v o}(h:JD args=Eh (v,o)):IsoCall Tryz.prog 19 args v o:=by
 unfold JD at h;split at h
 .rename_i s c
  cases hl:E9 s.length 4294967281 with
  |false=>rw[hl]at h;cases h
  |true=>
   rw[hl]at h;cases h;have:=jg8 (s:=s) (p:=[c]) (Ha.mp hl) (by simp)
   have e:(Lib.splitB ⟨⟨[c]⟩⟩ 0 (Lib.countB ⟨⟨s⟩⟩ ⟨⟨[c]⟩⟩) ⟨⟨s⟩⟩).map (fun x=>AVal.str x.data.toList)=(eR c s).map .str:=by
    rw[<-jjk]
    have e2:(Lib.splitB ⟨⟨[c]⟩⟩ 0 (Lib.countB ⟨⟨s⟩⟩ ⟨⟨[c]⟩⟩) ⟨⟨s⟩⟩).map (·.data.toList)=Lib.split s [c]:=by
     rw[Lib.splitB_data];rfl
    rw[<-e2,Hk];rfl
   rw[e]at this;exact this
 .cases h
theorem jtm {args v o}(h:t99 args=Eh (v,o)):IsoCall Tryz.prog 29 args v o:=by
 unfold t99 at h;split at h
 .cases h;exact q3q
 .rename_i l p;split at h
  .rename_i s ss hq
   cases hk:(G0 (s::ss).length 100000&&G0 (p.intercalate (s::ss)).length 100000000)with
   |false=>rw[hk]at h;cases h
   |true=>
    rw[hk]at h;cases h;simp only[He]at hk;have Y:=En hk.1;have I:=En hk.2;rw[q3a hq];exact jj4 (ss:=s::ss) (p:=p) (by simp) (by omega) (by show(p.intercalate (s::ss)).length<=_;omega)
  .cases h
 .cases h
theorem q9z {args v o}(h:yS args=Eh (v,o)):IsoCall Tryz.prog 26 args v o:=by
 unfold yS at h;split at h
 .rename_i n
  cases hk:E9 n 1000000000000000000 with
  |false=>rw[hk]at h;cases h
  |true=>
   rw[hk]at h;cases h;have hn:=Ha.mp hk;have:=jin (n:=Int.ofNat n) (by simp<;>omega) (by simp<;>omega)
   have e:Lib.itoa (Int.ofNat n)=FL 18 n []:=by
    rw[UY 18 n [] (by omega) (by omega),List.append_nil];unfold Lib.itoa;rw[if_neg (by simp)];rfl
   rw[e]at this;exact this
 .cases h
theorem jqu {args v o}(h:JE args=Eh (v,o)):IsoCall Tryz.prog 175 args v o:=by
 unfold JE at h;split at h
 .rename_i s c
  cases hk:(G0 c 100000&&G0 (s.length*c) 100000)with
  |false=>rw[hk]at h;cases h
  |true=>
   rw[hk]at h;cases h;simp only[He]at hk;have Y:=En hk.1;have I:=En hk.2;exact jcw (s:=s) (c:=c) (by omega) (by omega)
 .cases h
theorem jf8 {k f}(h:Is k f):Abs.Enters Tryz.prog k:=by
 obtain⟨fn,hh,Y,I⟩:=h;obtain⟨c,g1,g2,g3,g4,g5⟩:=R6 I;exact⟨fn,Y,g5,by rw[g1];rfl⟩
theorem FN {k}(h:(tree.find k).isSome=true):Abs.Enters Tryz.prog k:=by
 obtain⟨f,hf⟩:=Option.isSome_iff_exists.1 h;exact jf8 (bL.gk all hf)
def NA:LB:=fun k=>bif Ep k 235 then Eh Nz else bif Ep k 19 then Eh JD else bif Ep k 29 then Eh t99 else bif Ep k 26 then Eh yS else bif Ep k 175 then Eh JE else E4
def FO (args:List AVal)(h:qi):Option (AVal×Bool×qi):=bif qt 0 args then(match yS args with
 |some (v,_)=>Eh (v,Eg,h)
 |none=>E4)else E4
def UZ:XU:=fun k=>bif Ep k 26 then Eh FO else E4
def isL (k:Nat):Bool:=Ep k 235||Ep k 19||Ep k 29||Ep k 26||Ep k 175
def NC:j8:={ bn:=fun k=>bif isL k then E4 else U0.bn k,di:=NA,dO:=UZ,maps:=JF }
theorem jnz {args h v o h'}(hq:FO args h=Eh (v,o,h')):Me Tryz.prog 26 args h v o h':=by
 unfold FO at hq
 cases hb:qt 0 args with
 |false=>rw[hb]at hq;cases hq
 |true=>
  rw[hb]at hq;simp only[cond_true]at hq;split at hq
  .rename_i v' o' ht;cases hq
   have hv:lV v=true:=by
    unfold yS at ht;split at ht
    .rename_i n
     cases hk:E9 n 1000000000000000000 with
     |false=>rw[hk]at ht;cases ht|true=>rw[hk]at ht;cases ht;rfl
    .cases ht
   exact(q9z ht).shr hb hv h
  .cases hq
theorem s5:ct Tryz.prog pr:=okM ok0
theorem okL:ct Tryz.prog NC where
 fn:=by
  intro k f hf;simp only[NC,G1]at hf;split at hf
  .cases hf
  .exact(okW ok0).fn k f hf
 mf:=by
  intro k f hf;simp only[NC,NA,G1]at hf;split at hf
  .next hb=>cases hf;obtain rfl:=Eb hb;exact⟨FN (k:=235) (by kernel_rfl),fun args v o h _ _=>jot h⟩
  split at hf
  .next hb=>cases hf;obtain rfl:=Eb hb;exact⟨FN (k:=19) (by kernel_rfl),fun args v o h _ _=>jqi h⟩
  split at hf
  .next hb=>cases hf;obtain rfl:=Eb hb;exact⟨FN (k:=29) (by kernel_rfl),fun args v o h _ _=>jtm h⟩
  split at hf
  .next hb=>cases hf;obtain rfl:=Eb hb;exact⟨FN (k:=26) (by kernel_rfl),fun args v o h _ _=>q9z h⟩
  split at hf
  .next hb=>cases hf;obtain rfl:=Eb hb;exact⟨FN (k:=175) (by kernel_rfl),fun args v o h _ _=>jqu h⟩
  .cases hf
 mixed:=s5.mixed
 oM:=by
  intro k f hf;simp only[NC,UZ,G1]at hf;split at hf
  .next hb=>cases hf;obtain rfl:=Eb hb;exact⟨FN (k:=26) (by kernel_rfl),fun args h v o h' hq=>jnz hq⟩
  .cases hf
 maps:=s5.maps
end Go.Z
end
