/- The library's functions in the abstract machine. -/
import Derived.Test.YtimdocpnkimlfaaGreatDoorZS
import Derived.Test.YtimdocpnkimlfaaGreatDoorZP
import Derived.Lib.AppendIntMem
import Derived.Test.YtimdocpnkimlfaaGreatDoorZM
import Derived.Test.YtimdocpnkimlfaaGreatDoorL1
set_option linter.unusedVariables false
set_option linter.unusedSimpArgs false
set_option maxRecDepth 100000
open Bool renaming false→I,and_eq_true→Ga,cond_eq_ite→Gg,true→Gh,false_eq_true→Gl
open Option renaming some→En,none→Gi
open Nat renaming eq_of_beq_eq_true→E3,beq→Gc,le_of_ble_eq_true→Gd,blt→Gm,ble→Gp,blt_eq→Gv
open List renaming length_map→Gq,isPrefixOf→Gr,length_singleton→Gs,cons_append→Gw,mem_map→Gx,map_map→Gz
namespace Go.Z
open Go Go.Abs Go.Proofs Go.RowKit
theorem q3k {C}:∀(l:List ByteArray),aS C (l.map fun s=>.str s.data.toList) (l.map Value.string)
 | []=>.nil
 |s::l=>.cons _ _ _ _ (show bP C (.str s.data.toList) (.string s)from .str _) (q3k l)
theorem q3o {C r}:∀ {ss:List (List UInt8)} {o:Nat},bu C r 1 (ss.map AVal.str) o→∀(j:Nat) s,ss[j]?=En s→C.K r (o+j)=En (.string ⟨⟨s⟩⟩)
 | [],o,_,j,s,hj=>by simp at hj
 |x::ss,o,h,j,s,hj=>by
  cases h with
  |dr _ _ _ _ _ hs hx hr=>
   cases j with
   |zero=>
    simp only[List.getElem?_cons_zero,En.injEq]at hj
    subst hj
    cases hx with
    |dB _ _ _ _ u hv hu _=>
     rw[Nat.add_zero,hv,bP.cq hu]
   |succ j=>
    have:=q3o hr j s (by simpa using hj)
    rw[show o+(j+1)=o+1+j by omega]
    exact this
theorem Ut {w w'}(h:Below w.heap.size w w'):Ext w w':=⟨h.size,h.block,h.os,h.output⟩
theorem jmh {n}(h0:-9223372036854775808≤n)(h1:n≤9223372036854775807):IsoCall Tryz.prog 103 [.int .i64 n] (.str (Lib.itoa n)) I:=by
 refine GR fun K w vs ht hk hr=>?_
 cases hr with
 |cons _ _ v vs hx hr=>
  cases hr
  obtain rfl:=bP.bQ hx
  have hg:Tryz.prog.globalNamed oc=En 1:=by kernel_rfl
  refine⟨.string ⟨⟨Lib.itoa n⟩⟩,.str _,(Tryz.strconv_Itoa n h0 h1 w (ht.table hg)).mono ?_⟩
  rintro e w' ⟨rfl,k,os,rfl⟩
  exact⟨rfl,Ut (Lib.below_grow w.heap.size w (Nat.le_refl _) k os)⟩
theorem q0g {s c}:IsoCall Tryz.prog 254 [.str s,.int .u8 c] (.int .i64 (Lib.indexByte s c.toNat.toUInt8)) I:=by
 refine GR fun K w vs ht hk hr=>?_
 cases hr with
 |cons _ _ v vs hx hr=>
  cases hr with
  |cons _ _ v2 vs iJ hr=>
   cases hr
   obtain rfl:=bP.cq hx
   obtain rfl:=bP.bQ iJ
   refine⟨_,.int _ _,(Tryz.stringslite_IndexByte ⟨⟨s⟩⟩ c w).mono ?_⟩
   rintro e w' ⟨rfl,rfl⟩
   exact⟨rfl,Ext.refl _⟩
theorem jel {s p}(hs:s.length<4294967281)(hp:1≤p.length):IsoCall Tryz.prog 44 [.str s,.str p] (.list I 1 ((Lib.splitB ⟨⟨p⟩⟩ 0 (Lib.countB ⟨⟨s⟩⟩ ⟨⟨p⟩⟩) ⟨⟨s⟩⟩).map fun x=>.str x.data.toList)) I:=by
 refine jhq (us:=(Lib.splitB ⟨⟨p⟩⟩ 0 (Lib.countB ⟨⟨s⟩⟩ ⟨⟨p⟩⟩) ⟨⟨s⟩⟩).map Value.string) (t:=9) (fun x hx=>?_) (fun K=>q3k _) (fun u hu=>?_) fun K w vs ht hk hr=>?_
 ·obtain⟨y,_,rfl⟩:=Gx.1 hx;rfl
 ·obtain⟨y,_,rfl⟩:=Gx.1 hu;rfl
 ·cases hr with
  |cons _ _ v vs hx hr=>
   cases hr with
   |cons _ _ v2 vs iJ hr=>
    cases hr
    obtain rfl:=bP.cq hx
    obtain rfl:=bP.cq iJ
    have hg0:Tryz.prog.globalNamed xU=En 0:=by kernel_rfl
    obtain⟨m,hm⟩:=ht.length hg0
    refine(Tryz.strings_Split ⟨⟨s⟩⟩ ⟨⟨p⟩⟩ m w hs hm hp).mono ?_
    rintro e w' ⟨rfl,rfl⟩
    refine⟨?_,rfl⟩
    rw[Gq,Lib.splitB_all ⟨⟨p⟩⟩ hp 0 _ ⟨⟨s⟩⟩ rfl]
theorem jme {ss p}(bG:ss≠[])(hN:ss.length≤140737488355328)(hlen:(Lib.join ss p).length≤140737488355328):IsoCall Tryz.prog 105 [.list I 1 (ss.map .str),.str p] (.str (Lib.join ss p)) I:=by
 refine GR fun K w vs ht hk hr=>?_
 cases hr with
 |cons _ _ v vs hx hr=>
  cases hr with
  |cons _ _ v2 vs iJ hr=>
   cases hr
   obtain rfl:=bP.cq iJ
   have hl:∃r o cap,v=.slice (En ⟨r,o,Gi⟩) (ss.map AVal.str).length cap∧(ss.map AVal.str).length≤cap∧bu (.bV K) r 1 (ss.map .str) o:=by
    generalize hq:ss.map AVal.str=q at hx
    cases hx with
    |list _ _ r o cap hl db=>exact⟨r,o,cap,rfl,hl,db⟩
    |jG _ a hs=>exact absurd (List.map_eq_nil_iff.1 hq) bG
   obtain⟨r,o,cap,rfl,hcap,db⟩:=hl
   have lK:(ss.map fun s=>(⟨⟨s⟩⟩:ByteArray)).map (·.data.toList)=ss:=by
    rw[Gz]
    exact List.map_id' _
   have hcells:∀(j:Nat) x,(ss.map fun s=>(⟨⟨s⟩⟩:ByteArray))[j]?=En x→w.cell? ⟨r,o+j,Gi⟩=En (.string x):=by
    intro j x hj
    rw[List.getElem?_map,Option.map_eq_some_iff]at hj
    obtain⟨s,hs,rfl⟩:=hj
    exact hk _ _ _ (q3o db j s hs)
   have hbk:r<w.heap.size:=by
    cases x9:ss with
    |nil=>exact absurd x9 bG
    |cons s l=>
     have:=hcells 0 ⟨⟨s⟩⟩ (by rw[x9];rfl)
     rcases Nat.lt_or_ge r w.heap.size with h|h
     ·exact h
     ·simp[World.cell?,Array.getElem?_eq_none h]at this
   have hj:=Tryz.strings_Join r o cap (ss.map fun s=>(⟨⟨s⟩⟩:ByteArray)) ⟨⟨p⟩⟩ w hcells hbk (by simpa using hN) (by simpa using hcap) (by rw[lK];exact hlen)
   rw[lK,Gq]at hj
   rw[Gq]
   refine⟨.string ⟨⟨Lib.join ss p⟩⟩,.str _,hj.mono ?_⟩
   rintro e w' ⟨rfl,hb⟩
   exact⟨rfl,Ut hb⟩
theorem ja5 {s:List UInt8}{c}(hc:c≤9223372036854775807)(hlen:s.length*c≤140737488355328):IsoCall Tryz.prog 196 [.str s,.int .i64 (c:Int)] (.str (Lib.repeatL s c)) I:=by
 refine GR fun K w vs ht hk hr=>?_
 cases hr with
 |cons _ _ v vs hx hr=>
  cases hr with
  |cons _ _ v2 vs iJ hr=>
   cases hr
   obtain rfl:=bP.cq hx
   obtain rfl:=bP.bQ iJ
   refine⟨.string ⟨⟨Lib.repeatL s c⟩⟩,.str _,(Tryz.strings_Repeat ⟨⟨s⟩⟩ c w hc hlen).mono ?_⟩
   rintro e w' ⟨rfl,hb⟩
   exact⟨rfl,Ut hb⟩
theorem q0q {p}:IsoCall Tryz.prog 105 [.list Gh 0 [],.str p] (.str []) I:=by
 refine GR fun K w vs ht hk hr=>?_
 cases hr with
 |cons _ _ v vs hx hr=>
  cases hr with
  |cons _ _ v2 vs iJ hr=>
   cases hr
   obtain rfl:=bP.cq iJ
   cases hx
   refine⟨.string ⟨#[]⟩,.str _,(Tryz.strings_Join_none _ _ ⟨⟨p⟩⟩ w).mono ?_⟩
   rintro e w' ⟨rfl,rfl⟩
   exact⟨rfl,Ext.refl _⟩
end Go.Z
namespace Go.Z
open Go Go.Abs Go.Proofs
def xa (c:UInt8)(acc:List UInt8):List UInt8→List (List UInt8)
 | []=>[acc]
 |x::t=>if x=c then acc::xa c [] t else xa c (acc++[x]) t
def xb (c:UInt8)(s:List UInt8):List (List UInt8):=xa c [] s
theorem q8u {c}:∀ {s:List UInt8} {acc:List UInt8},c ∉ s→xa c acc s=[acc++s]
 | [],acc,_=>by simp[xa]
 |x::t,acc,h=>by
  have h1:x≠c:=fun e=>h (by simp[e])
  have h2:c ∉ t:=fun e=>h (by simp[e])
  rw[xa,if_neg h1,q8u h2]
  simp
theorem q8e {c}:∀ {a b acc:List UInt8},c ∉ a→xa c acc (a++c::b)=(acc++a)::xb c b
 | [],b,acc,_=>by simp[xa,xb]
 |x::t,b,acc,h=>by
  have h1:x≠c:=fun e=>h (by simp[e])
  have h2:c ∉ t:=fun e=>h (by simp[e])
  rw[Gw,xa,if_neg h1,q8e h2]
  simp
theorem js1 {c s}(h:c ∉ s):xb c s=[s]:=q8u h
theorem jwn {c a b}(h:c ∉ a):xb c (a++c::b)=a::xb c b:=q8e h
theorem jd3 (c:UInt8)(s:List UInt8):c ∉ s∨∃a b,s=a++c::b∧c ∉ a:=by
 by_cases h:c∈s
 ·obtain⟨a,b,h1,h2⟩:=List.eq_append_cons_of_mem h
  exact .inr ⟨a,b,h1,h2⟩
 ·exact .inl h
theorem q7y {c:UInt8}{P:List UInt8→Prop}(h0:∀s,c ∉ s→P s)(h1:∀a b,c ∉ a→P b→P (a++c::b)):∀(n:Nat) (s:List UInt8),s.length≤n→P s
 |0,s,hn=>h0 s (by rw[List.length_eq_zero_iff.1 (by omega:s.length=0)];simp)
 |n+1,s,hn=>by
  rcases jd3 c s with h|⟨a,b,rfl,h⟩
  ·exact h0 s h
  ·exact h1 a b h (q7y h0 h1 n b (by simp only[List.length_append,List.length_cons]at hn;omega))
theorem q51 {c}:∀ {s:List UInt8},c ∉ s→Lib.index s [c]=-1
 | [],_=>rfl
 |x::t,h=>by
  have h1:x≠c:=fun e=>h (by simp[e])
  have h2:c ∉ t:=fun e=>h (by simp[e])
  have hp:([c]:List UInt8).isPrefixOf (x::t)=I:=by simp[Gr,Ne.symm h1]
  rw[Lib.index,hp,q51 h2];rfl
theorem q4p {c}:∀ {a b:List UInt8},c ∉ a→Lib.index (a++c::b) [c]=(a.length:Int)
 | [],b,_=>by simp[Lib.index,Gr]
 |x::t,b,h=>by
  have h1:x≠c:=fun e=>h (by simp[e])
  have h2:c ∉ t:=fun e=>h (by simp[e])
  have hp:([c]:List UInt8).isPrefixOf (x::(t++c::b))=I:=by simp[Gr,Ne.symm h1]
  have bG:((t.length:Int) == -1)=I:=by simp
  rw[Gw,Lib.index,hp,q4p h2,bG]
  simp
theorem jhx (c:UInt8)(s:List UInt8):Lib.split s [c]=xb c s:=by
 refine q7y (c:=c) (P:=fun s=>Lib.split s [c]=xb c s) ?_ ?_ s.length s (Nat.le_refl _)
 ·intro s h
  rw[js1 h,Lib.split,Lib.count_miss (q51 h)];rfl
 ·intro a b h ih
  have hi:=q4p (b:=b) h
  have hd:(a++c::b).drop (a.length+1)=b:=by
   rw[show a++c::b=(a++[c])++b by simp,show a.length+1=(a++[c]).length by simp,List.drop_left]
  have hm:((a.length:Int) == -1)=I:=by simp
  rw[jwn h,Lib.split,Lib.count_hit (by simp) hi]
  simp only[Gs,hd,Nat.add_comm 1]
  rw[Lib.splitK,hi,hm]
  simp only[Gl,if_false,Int.toNat_natCast,Nat.add_zero,Gs,hd]
  rw[List.take_left',←ih]; · rfl
  ·rfl
def IZ (c:UInt8):List UInt8→Nat→Int
 | [],_=>-1
 |b::l,n=>bif b == c then(n:Int)else IZ c l (n+1)
theorem q7s (c:UInt8):∀(l:List UInt8) (n:Nat),IZ c l n=if Lib.indexByte l c == -1 then -1 else Lib.indexByte l c+n
 | [],n=>rfl
 |b::l,n=>by
  have vj:=Lib.indexByte_ge l c
  rw[IZ,Lib.indexByte,q7s c l (n+1)]
  cases hb:(b == c)with
  |true=>simp
  |false=>
   simp only[cond_false,Gl,if_false]
   by_cases h:Lib.indexByte l c=-1
   ·simp[h]
   ·have h1:(Lib.indexByte l c == -1)=I:=by simpa using h
    have h2:(Lib.indexByte l c+1 == -1)=I:=by simp;omega
    simp only[h1,h2,Gl,if_false]
    omega
theorem jf0 (c:UInt8)(l:List UInt8):IZ c l 0=Lib.indexByte l c:=by
 rw[q7s]
 by_cases h:Lib.indexByte l c=-1
 ·simp[h]
 ·have h1:(Lib.indexByte l c == -1)=I:=by simpa using h
  simp[h1]
def I0:Nat→Nat→List UInt8→List UInt8
 |0,_,acc=>acc
 |f+1,u,acc=>bif Gm u 10 then UInt8.ofNat (48+u)::acc else I0 f (u / 10) (UInt8.ofNat (48+u % 10)::acc)
theorem q7r:∀ (f u:Nat) (acc:List UInt8),u<10^f→0<f→I0 f u acc=Lib.decDigits u++acc
 |0,_,_,_,h=>by omega
 |f+1,u,acc,hu,_=>by
  rw[I0,Lib.decDigits]
  by_cases h:u<10
  ·rw[Gv.mpr h];simp[h]
  ·have hb:Gm u 10=I:=by
    cases hh:Gm u 10 with
    |false=>rfl
    |true=>exact absurd (Gv.mp hh) h
   have hf:0<f:=by
    rcases Nat.eq_zero_or_pos f with rfl|h1
    ·simp at hu;omega
    ·exact h1
   rw[hb,dif_neg h]
   simp only[cond_false]
   rw[q7r f (u / 10) _ (by rw[Nat.pow_succ]at hu;omega) hf]
   simp
def MT:List AVal→Option (List (List UInt8))
 | []=>En []
 | .str s::l=>match MT l with
  |some r=>En (s::r)
  |none=>Gi
 |_=>Gi
theorem qz1:∀ {l:List AVal} {r:List (List UInt8)},MT l=En r→l=r.map .str
 | [],r,h=>by cases h;rfl
 | .str s::l,r,h=>by
  simp only[MT]at h
  split at h
  ·rename_i q hq
   cases h
   rw[qz1 hq];rfl
  ·cases h
 | .bool _::_,_,h | .int ..::_,_,h | .list ..::_,_,h | .ms ..::_,_,h | .ptr ..::_,_,h | .ah _::_,_,h | .bZ::_,_,h | .map _::_,_,h | .bX::_,_,h | .fn ..::_,_,h | .cr::_,_,h | .agg _::_,_,h | .aC _::_,_,h | .undef::_,_,h | .any::_,_,h | .ay ..::_,_,h | .dH ..::_,_,h | .cT _::_,_,h=>by cases h
def Uu:List AVal→Option (AVal×Bool)
 | [.str s,.int .u8 (.ofNat c)]=>En (.int .i64 (IZ (UInt8.ofNat c) s 0),I)
 |_=>Gi
def Uv:List AVal→Option (AVal×Bool)
 | [.str s,.str [c]]=>bif Gm s.length 4294967281 then En (.list I 1 ((xb c s).map .str),I)else Gi
 |_=>Gi
def t99:List AVal→Option (AVal×Bool)
 | [.list Gh 0 [],.str _]=>En (.str [],I)
 | [.list I 1 l,.str p]=>match MT l with
  |some (s::ss)=>bif Gp (s::ss).length 100000&&Gp (p.intercalate (s::ss)).length 100000000 then En (.str (p.intercalate (s::ss)),I)else Gi
  |_=>Gi
 |_=>Gi
def I1:List AVal→Option (AVal×Bool)
 | [.int .i64 (.ofNat n)]=>bif Gm n 1000000000000000000 then En (.str (I0 18 n []),I)else Gi
 |_=>Gi
def Uw:List AVal→Option (AVal×Bool)
 | [.str s,.int .i64 (.ofNat c)]=>bif Gp c 100000&&Gp (s.length*c) 100000 then En (.str (Lib.repeatL s c),I)else Gi
 |_=>Gi
theorem jqd {args v o}(h:Uu args=En (v,o)):IsoCall Tryz.prog 254 args v o:=by
 unfold Uu at h;split at h
 ·rename_i s c
  cases h
  rw[jf0]
  exact q0g (s:=s) (c:=Int.ofNat c)
 ·cases h
theorem jp8 {args v o}(h:Uv args=En (v,o)):IsoCall Tryz.prog 44 args v o:=by
 unfold Uv at h;split at h
 ·rename_i s c
  cases hl:Gm s.length 4294967281 with
  |false=>rw[hl]at h;cases h
  |true=>
   rw[hl]at h
   cases h
   have:=jel (s:=s) (p:=[c]) (Gv.mp hl) (by simp)
   have e:(Lib.splitB ⟨⟨[c]⟩⟩ 0 (Lib.countB ⟨⟨s⟩⟩ ⟨⟨[c]⟩⟩) ⟨⟨s⟩⟩).map (fun x=>AVal.str x.data.toList)=(xb c s).map .str:=by
    rw[←jhx]
    have e2:(Lib.splitB ⟨⟨[c]⟩⟩ 0 (Lib.countB ⟨⟨s⟩⟩ ⟨⟨[c]⟩⟩) ⟨⟨s⟩⟩).map (·.data.toList)=Lib.split s [c]:=by
     rw[Lib.splitB_data];rfl
    rw[←e2,Gz];rfl
   rw[e]at this
   exact this
 ·cases h
theorem jv9 {args v o}(h:t99 args=En (v,o)):IsoCall Tryz.prog 105 args v o:=by
 unfold t99 at h;split at h
 ·cases h;exact q0q
 ·rename_i l p
  split at h
  ·rename_i s ss hq
   cases hk:(Gp (s::ss).length 100000&&Gp (p.intercalate (s::ss)).length 100000000)with
   |false=>rw[hk]at h;cases h
   |true=>
    rw[hk]at h
    cases h
    simp only[Ga]at hk
    have h1:=Gd hk.1
    have h2:=Gd hk.2
    rw[qz1 hq]
    exact jme (ss:=s::ss) (p:=p) (by simp) (by omega) (by show(p.intercalate (s::ss)).length≤_;omega)
  ·cases h
 ·cases h
theorem q7w {args v o}(h:I1 args=En (v,o)):IsoCall Tryz.prog 103 args v o:=by
 unfold I1 at h;split at h
 ·rename_i n
  cases hk:Gm n 1000000000000000000 with
  |false=>rw[hk]at h;cases h
  |true=>
   rw[hk]at h
   cases h
   have hn:=Gv.mp hk
   have:=jmh (n:=Int.ofNat n) (by simp<;>omega) (by simp<;>omega)
   have e:Lib.itoa (Int.ofNat n)=I0 18 n []:=by
    rw[q7r 18 n [] (by omega) (by omega),List.append_nil]
    unfold Lib.itoa
    rw[if_neg (by simp)]
    rfl
   rw[e]at this
   exact this
 ·cases h
theorem jpv {args v o}(h:Uw args=En (v,o)):IsoCall Tryz.prog 196 args v o:=by
 unfold Uw at h;split at h
 ·rename_i s c
  cases hk:(Gp c 100000&&Gp (s.length*c) 100000)with
  |false=>rw[hk]at h;cases h
  |true=>
   rw[hk]at h
   cases h
   simp only[Ga]at hk
   have h1:=Gd hk.1
   have h2:=Gd hk.2
   exact ja5 (s:=s) (c:=c) (by omega) (by omega)
 ·cases h
theorem jeq {k f}(h:Is k f):Abs.Enters Tryz.prog k:=by
 obtain⟨fn,hh,h1,h2⟩:=h
 obtain⟨c,g1,g2,g3,g4,g5⟩:=RH h2
 exact⟨fn,h1,g5,by rw[g1];rfl⟩
theorem uW {k}(h:(tree.find k).isSome=Gh):Abs.Enters Tryz.prog k:=by
 obtain⟨f,hf⟩:=Option.isSome_iff_exists.1 h
 exact jeq (du.gh all hf)
def Ux:xK:=fun k=>bif Gc k 254 then En Uu else bif Gc k 44 then En Uv else bif Gc k 105 then En t99 else bif Gc k 103 then En I1 else bif Gc k 196 then En Uw else Gi
def Uy (args:List AVal)(h:qh):Option (AVal×Bool×qh):=bif qw 0 args then(match I1 args with
 |some (v,_)=>En (v,I,h)
 |none=>Gi)else Gi
def q8s:jde:=fun k=>bif Gc k 103 then En Uy else Gi
def isL (k:Nat):Bool:=Gc k 254||Gc k 44||Gc k 105||Gc k 103||Gc k 196
def bI:j8:={ bM:=fun k=>bif isL k then Gi else pr.bM k,cG:=Ux,dG:=q8s,maps:=Uz }
theorem jos {args h v o h'}(hq:Uy args h=En (v,o,h')):AO Tryz.prog 103 args h v o h':=by
 unfold Uy at hq
 cases hb:qw 0 args with
 |false=>rw[hb]at hq;cases hq
 |true=>
  rw[hb]at hq
  simp only[cond_true]at hq
  split at hq
  ·rename_i v' o' ht
   cases hq
   have hv:mr v=Gh:=by
    unfold I1 at ht;split at ht
    ·rename_i n
     cases hk:Gm n 1000000000000000000 with
     |false=>rw[hk]at ht;cases ht
     |true=>rw[hk]at ht;cases ht;rfl
    ·cases ht
   exact(q7w ht).shr hb hv h
  ·cases hq
theorem Qs:∀ (t:List (Nat×List Row)),(t.all fun p=>(tree.find p.1).isSome)=Gh→∀k l,xJ t k=En l→(tree.find k).isSome=Gh
 |(j,m)::t,h,k,l,hk=>by
  simp only[List.all_cons,Ga]at h
  simp only[xJ,Gg]at hk
  split at hk
  ·next hb=>rw[←E3 hb];exact h.1
  ·exact Qs t h.2 k l hk
theorem BR:bW Tryz.prog pr:=okM ok0
theorem bL:bW Tryz.prog bI where
 fn:=by
  intro k f hf
  simp only[bI,Gg]at hf
  split at hf
  ·cases hf
  ·exact BR.fn k f hf
 iE:=by
  intro k f hf
  simp only[bI,Ux,Gg]at hf
  split at hf
  ·next hb=>cases hf;obtain rfl:=E3 hb;exact⟨uW (k:=254) (by kernel_rfl),fun args v o h _ _=>jqd h⟩
  split at hf
  ·next hb=>cases hf;obtain rfl:=E3 hb;exact⟨uW (k:=44) (by kernel_rfl),fun args v o h _ _=>jp8 h⟩
  split at hf
  ·next hb=>cases hf;obtain rfl:=E3 hb;exact⟨uW (k:=105) (by kernel_rfl),fun args v o h _ _=>jv9 h⟩
  split at hf
  ·next hb=>cases hf;obtain rfl:=E3 hb;exact⟨uW (k:=103) (by kernel_rfl),fun args v o h _ _=>q7w h⟩
  split at hf
  ·next hb=>cases hf;obtain rfl:=E3 hb;exact⟨uW (k:=196) (by kernel_rfl),fun args v o h _ _=>jpv h⟩
  ·cases hf
 mixed:=BR.mixed
 fU:=by
  intro k f hf
  simp only[bI,q8s,Gg]at hf
  split at hf
  ·next hb=>cases hf;obtain rfl:=E3 hb;exact⟨uW (k:=103) (by kernel_rfl),fun args h v o h' hq=>jos hq⟩
  ·cases hf
 maps:=BR.maps
end Go.Z
namespace Go.Z
open Go Go.Abs Go.Proofs
def EG:AVal→AVal→Bool
 | .fn (.func a) [] [],.fn (.func b) [] []=>Gc a b
 | .cr,.cr=>Gh
 | .ay a b c,.ay a' b' c'=>Gc a a'&&(Gc b b'&&Gc c c')
 | .ptr a b,.ptr a' b'=>Gc a a'&&Gc b b'
 |a,b=>jA a b
theorem MU {a b}(h:EG a b=Gh):a=b:=by
 unfold EG at h
 split at h
 ·rw[E3 h]
 ·rfl
 ·simp only[Ga]at h
  rw[E3 h.1,E3 h.2.1,E3 h.2.2]
 ·simp only[Ga]at h
  rw[E3 h.1,E3 h.2]
 ·exact qzo h
def I2:List AVal→List AVal→Bool
 | [],[]=>Gh
 |a::l,b::m=>EG a b&&I2 l m
 |_,_=>I
theorem UA:∀ {l m:List AVal},I2 l m=Gh→l=m
 | [],[],_=>rfl
 |a::l,b::m,h=>by
  simp only[I2,Ga]at h
  rw[MU h.1,UA h.2]
 | [],_::_,h=>by cases h
 |_::_,[],h=>by cases h
def UB:AVal→AVal→Bool
 | .agg l,.agg m=>I2 l m
 |a,b=>EG a b
theorem jea {a b}(h:UB a b=Gh):a=b:=by
 unfold UB at h
 split at h
 ·rw[UA h]
 ·exact MU h
def MV:List (AVal×Bool)→List (AVal×Bool)→Bool
 | [],[]=>Gh
 |(a,o)::l,(b,q)::m=>EG a b&&((o == q)&&MV l m)
 |_,_=>I
theorem qxj:∀ {l m:List (AVal×Bool)},MV l m=Gh→l=m
 | [],[],_=>rfl
 |(a,o)::l,(b,q)::m,h=>by
  simp only[MV,Ga,beq_iff_eq]at h
  rw[MU h.1,h.2.1,qxj h.2.2]
 | [],_::_,h=>by cases h
 |_::_,[],h=>by cases h
def MW:List (AVal×AVal)→List (AVal×AVal)→Bool
 | [],[]=>Gh
 |(a,o)::l,(b,q)::m=>EG a b&&(UB o q&&MW l m)
 |_,_=>I
theorem qxi:∀ {l m:List (AVal×AVal)},MW l m=Gh→l=m
 | [],[],_=>rfl
 |(a,o)::l,(b,q)::m,h=>by
  simp only[MW,Ga]at h
  rw[MU h.1,jea h.2.1,qxi h.2.2]
 | [],_::_,h=>by cases h
 |_::_,[],h=>by cases h
def UC:bg→bg→Bool
 | .hole,.hole=>Gh
 | .dead,.dead=>Gh
 | .cells l,.cells m=>MV l m
 | .map l,.map m=>MW l m
 | .vec a b l,.vec a' b' m=>Gc a a'&&(Gc b b'&&vA l m)
 |_,_=>I
theorem jbe {a b}(h:UC a b=Gh):a=b:=by
 unfold UC at h
 split at h
 ·rfl
 ·rfl
 ·rw[qxj h]
 ·rw[qxi h]
 ·simp only[Ga]at h
  rw[E3 h.1,E3 h.2.1,DZ h.2.2]
 ·cases h
def MX:qh→qh→Bool
 | [],[]=>Gh
 |a::l,b::m=>UC a b&&MX l m
 |_,_=>I
theorem qw4:∀ {l m:qh},MX l m=Gh→l=m
 | [],[],_=>rfl
 |a::l,b::m,h=>by
  simp only[MX,Ga]at h
  rw[jbe h.1,qw4 h.2]
 | [],_::_,h=>by cases h
 |_::_,[],h=>by cases h
abbrev kh:=List AVal×qh×AVal×Bool×qh
def KI (args:List AVal)(h:qh):List kh→Option (AVal×Bool×qh)
 | []=>Gi
 |r::l=>bif I2 args r.1&&MX h r.2.1 then En r.2.2 else KI args h l
theorem qzy {args h x}:∀ {l:List kh},KI args h l=En x→(args,h,x)∈l
 | [],h=>by cases h
 |r::l,hx=>by
  simp only[KI,Gg]at hx
  split at hx
  ·next hb=>
   simp only[Ga]at hb
   cases hx
   rw[UA hb.1,qw4 hb.2]
   exact List.mem_cons_self ..
  ·exact List.mem_cons_of_mem _ (qzy hx)
def Qp (P:Program)(k:Nat):List kh→Prop
 | []=>True
 |r::l=>AO P k r.1 r.2.1 r.2.2.1 r.2.2.2.1 r.2.2.2.2∧Qp P k l
theorem q4l {P k}:∀ {l:List kh},Qp P k l→∀r∈l,AO P k r.1 r.2.1 r.2.2.1 r.2.2.2.1 r.2.2.2.2
 |r::l,h,x,hx=>by
  cases hx with
  |head=>exact h.1
  |tail _ hx=>exact q4l h.2 x hx
theorem jx {P p}(hp:bW P p){n k args h h' v o}(hr:ql p (iF p n) k args h=En (v,o,h')):AO P k args h v o h':=
 (F2 hp (cD.Gy (Lw hp n).1) (by rw[←LB];exact hr)).2
end Go.Z
namespace Go.Z
open Go Go.Abs Go.Proofs
abbrev xL:=iF bI 1000
def fO:AVal:=.list Gh 0 []
def dV:bg:=.cells [(fO,I),(fO,I),(.ay 2 0 1,I)]
def cj:AVal:=.int .i64 0
def zP:AVal:=.agg [cj,fO,fO,fO]
def hJ:AVal:=.int .i64 1
def BS:AVal:=.str [99,111,110,101,95,49]
def EH:AVal:=.str [99,111,110,101]
def xd:AVal:=.int .i64 10
def vV:AVal:=.bool I
def xv9:AVal:=.agg [BS,EH,xd,xd,vV]
def UD:AVal:=.agg [hJ,.list I 5 [xv9],fO,fO]
def lv1:List AVal:=[zP,UD]
def MY:AVal:=.str [108,111,116]
def lv2:List AVal:=[BS,EH]
def BT:AVal:=.agg [hJ,MY,.list I 1 lv2,.list I 1 [hJ,xd],.str []]
def bv2:bg:=.vec 5 0 [BT]
def bv3:bg:=.cells [(.ay 7 1 2,I),(.ay 5 1 2,I),(.ay 2 2 3,I)]
def xe:AVal:=.str [99,111,105,108,95,49]
def EI:AVal:=.str [99,111,105,108]
def BU:AVal:=.int .i64 5
def jxp:AVal:=.agg [xe,EI,BU,BU,vV]
def BV:AVal:=.list I 5 [xv9,jxp]
def UE:AVal:=.agg [hJ,BV,fO,fO]
def lv3:List AVal:=lv1++[UE]
def bv4:bg:=.vec 4 2 lv3
def vW:AVal:=.int .i64 2
def lv4:List AVal:=[xe,EI]
def EJ:AVal:=.agg [vW,MY,.list I 1 lv4,.list I 1 [hJ,BU],.str []]
def lv5:List AVal:=[BT,EJ]
def MZ:bg:=.vec 5 1 lv5
def bv6:bg:=.cells [(.ay 7 2 3,I),(.ay 5 2 3,I),(.ay 2 3 4,I)]
def mT:AVal:=.str [98,111,120]
def UF:AVal:=.agg [hJ,BV,.list I 4 [.agg [mT,fO,fO,fO]],fO]
def lv6:List AVal:=lv3++[UF]
def bv7:bg:=.vec 4 3 lv6
def pZ:AVal:=.int .i64 3
def jyh:AVal:=.str [112,114,111,100,117,99,116]
def UG:AVal:=.list I 1 [mT]
def EK:AVal:=.agg [pZ,jyh,UG,.list I 1 [hJ],.str []]
def lv7:List AVal:=lv5++[EK]
def M0:bg:=.vec 5 2 lv7
def bv9:bg:=.cells [(.ay 7 3 4,I),(.ay 5 3 4,I),(.ay 2 4 5,I)]
def juy:AVal:=.agg [EH,vW]
def UH:AVal:=.agg [hJ,BV,.list I 4 [.agg [mT,.list I 2 [juy],fO,fO]],fO]
def lv8:List AVal:=lv6++[UH]
def jr4:bg:=.vec 4 4 lv8
def M1:AVal:=.int .i64 4
def M2:AVal:=.str [110,101,101,100]
def EL:AVal:=.agg [M1,M2,.list I 1 [mT,EH],.list I 1 [hJ,vW],.str []]
def lv9:List AVal:=lv7++[EL]
def M3:bg:=.vec 5 3 lv9
def jux:bg:=.cells [(.ay 7 4 5,I),(.ay 5 4 5,I),(.ay 2 5 6,I)]
def UI:AVal:=.list I 2 [juy,.agg [EI,hJ]]
def UJ:AVal:=.agg [hJ,BV,.list I 4 [.agg [mT,UI,fO,fO]],fO]
def js0:List AVal:=lv8++[UJ]
def jwe:bg:=.vec 4 5 js0
def EM:AVal:=.agg [BU,M2,.list I 1 [mT,EI],.list I 1 [hJ,hJ],.str []]
def jtt:List AVal:=lv9++[EM]
def M4:bg:=.vec 5 4 jtt
def jtn:bg:=.cells [(.ay 7 5 6,I),(.ay 5 5 6,I),(.ay 2 6 7,I)]
def zh0:List AVal:=[mT,UI]
def BW:AVal:=.str [115,119,101,101,112]
def jum:AVal:=.int .i64 80
def jt7:AVal:=.int .i64 90
def jtm:AVal:=.list I 3 [.agg [BW,jum,jt7]]
def UK:List AVal:=zh0++[jtm]
def UL:AVal:=.agg [hJ,BV,.list I 4 [.agg ((UK++[fO]))],fO]
def jts:List AVal:=js0++[UL]
def jwk:bg:=.vec 4 6 jts
def UM:AVal:=.int .i64 6
def jsc:AVal:=.str [116,101,115,116]
def EN:AVal:=.agg [UM,jsc,.list I 1 [mT,BW],.list I 1 [hJ,jum,jt7],.str []]
def jwf:List AVal:=jtt++[EN]
def M5:bg:=.vec 5 5 jwf
def jue:bg:=.cells [(.ay 7 6 7,I),(.ay 5 6 7,I),(.ay 2 7 8,I)]
def UN:AVal:=.agg [UI,jtm]
def I3:AVal:=.list I 4 [.agg ((UK++[.list I 2 [UN]]))]
def UO:AVal:=.agg [vW,BV,I3,fO]
def jtr:List AVal:=jts++[UO]
def jt2:bg:=.vec 4 7 jtr
def UQ:AVal:=.int .i64 7
def UR:AVal:=.str [105,115,115,117,101]
def EO:AVal:=.agg [UQ,UR,UG,.list I 1 [vW],.str []]
def jwl:List AVal:=jwf++[EO]
def M6:bg:=.vec 5 6 jwl
def ju8:bg:=.cells [(.ay 7 7 8,I),(.ay 5 7 8,I),(.ay 2 8 9,I)]
def qA:AVal:=.str [117,49]
def US:AVal:=.agg [pZ,BV,I3,.list I 8 [.agg [qA,mT,hJ,fO,fO,.str [],vV,cj]]]
def juh:List AVal:=jtr++[US]
def jwg:bg:=.vec 4 8 juh
def M7:AVal:=.int .i64 8
def js6:AVal:=.str [98,117,105,108,100]
def BX:List AVal:=[qA,mT]
def sA:AVal:=.list I 1 [pZ]
def EP:AVal:=.agg [M7,js6,.list I 1 BX,sA,.str []]
def jsh:List AVal:=jwl++[EP]
def M8:bg:=.vec 5 7 jsh
def jr3:bg:=.cells [(.ay 7 8 9,I),(.ay 5 8 9,I),(.ay 2 9 10,I)]
def UT:AVal:=.agg ((lv2++[xd,M7,vV]))
def jys:AVal:=.agg [BS,vW]
def M9:AVal:=.agg [pZ,.list I 5 [UT,jxp],I3,.list I 8 [.agg ((BX++[hJ,.list I 2 [jys],fO,.str [],vV,cj]))]]
def jus:List AVal:=juh++[M9]
def jvl:bg:=.vec 4 9 jus
def UU:AVal:=.int .i64 9
def Na:AVal:=.str [117,115,101]
def jx7:AVal:=.list I 1 [qA,BS]
def EQ:AVal:=.agg [UU,Na,jx7,.list I 1 [pZ,vW],.str []]
def jxa:List AVal:=jsh++[EQ]
def Nb:bg:=.vec 5 8 jxa
def UW:bg:=.cells [(.ay 7 9 10,I),(.ay 5 9 10,I),(.ay 2 10 11,I)]
def zeq:List AVal:=lv4++[BU]
def ju9:List AVal:=zeq++[M1]
def ju4:List AVal:=[pZ,.list I 5 [UT,.agg ((ju9++[vV]))]]
def Nc:List AVal:=ju4++[I3]
def I4:AVal:=.list I 2 [jys,.agg [xe,hJ]]
def Nd:AVal:=.agg ((Nc++[.list I 8 [.agg ((BX++[hJ,I4,fO,.str [],vV,cj]))]]))
def jsg:List AVal:=jus++[Nd]
def UX:bg:=.vec 4 10 jsg
def jwh:AVal:=.list I 1 [pZ,hJ]
def ER:AVal:=.agg [xd,Na,.list I 1 [qA,xe],jwh,.str []]
def jvk:List AVal:=jxa++[ER]
def ES:bg:=.vec 5 9 jvk
def UY:bg:=.cells [(.ay 7 10 11,I),(.ay 5 10 11,I),(.ay 2 11 12,I)]
def jvp:List AVal:=[BW,hJ]
def jse:AVal:=.int .i64 85
def jug:AVal:=.agg ((jvp++[jse]))
def UZ:AVal:=.list I 3 [jug]
def U0:AVal:=.list I 8 [.agg ((BX++[hJ,I4,UZ,.str [],vV,cj]))]
def ET:AVal:=.agg ((Nc++[U0]))
def I6:List AVal:=jsg++[ET]
def U1:bg:=.vec 4 11 I6
def I7:AVal:=.int .i64 11
def U2:AVal:=.str [109,101,97,115,117,114,101]
def jrz:AVal:=.list I 1 [qA,BW]
def EU:AVal:=.agg [I7,U2,jrz,.list I 1 [pZ,jse],.str []]
def I8:List AVal:=jvk++[EU]
def EV:bg:=.vec 5 10 I8
def U3:bg:=.cells [(.ay 7 11 12,I),(.ay 5 11 12,I),(.ay 2 12 13,I)]
def fT:AVal:=.bool Gh
def U4:AVal:=.agg [pZ,.list I 5 [UT,.agg ((ju9++[fT]))],I3,U0]
def I9:bg:=.vec 4 12 ((I6++[U4]))
def U5:AVal:=.int .i64 12
def jyi:AVal:=.str [104,111,108,100]
def jt4:AVal:=.list I 1 [xe]
def EW:AVal:=.agg [U5,jyi,jt4,sA,.str []]
def jve:List AVal:=I8++[EW]
def zQ:bg:=.vec 5 11 jve
def jw7:bg:=.cells [(.ay 7 12 13,I),(.ay 5 11 11,I),(.ay 2 12 12,I)]
def Ja:AVal:=.int .i64 13
def BZ:AVal:=.str [117,110,100,111]
def Jb:AVal:=.list I 1 []
def Jc:AVal:=.agg [Ja,BZ,Jb,fO,.str []]
def jr2:List AVal:=jve++[Jc]
def jyn:bg:=.vec 5 12 jr2
def jyr:bg:=.cells [(.ay 7 13 14,I),(.ay 5 12 12,I),(.ay 2 13 13,I)]
def ju7:List AVal:=ju4++[.list I 4 [.agg ((UK++[.list I 2 [UN,UN]]))]]
def Nf:AVal:=.agg ((ju7++[U0]))
def jr9:List AVal:=I6++[Nf]
def jwi:bg:=.vec 4 13 jr9
def U6:AVal:=.int .i64 14
def B0:AVal:=.agg [U6,UR,UG,sA,.str []]
def jya:List AVal:=I8++[B0]
def jvb:bg:=.vec 5 12 jya
def jyp:List AVal:=jr2++[B0]
def jwp:bg:=.vec 5 13 jyp
def juv:bg:=.cells [(.ay 7 14 15,I),(.ay 5 13 13,I),(.ay 2 14 14,I)]
def U7:AVal:=.agg ((ju7++[.list I 8 [.agg ((BX++[vW,I4,UZ,.str [],vV,cj]))]]))
def EX:bg:=.vec 4 14 ((jr9++[U7]))
def Jd:AVal:=.int .i64 15
def jvt:AVal:=.str [117,112,100,97,116,101]
def vX:AVal:=.list I 1 [qA]
def B1:AVal:=.agg [Jd,jvt,vX,sA,.str []]
def EY:bg:=.vec 5 13 ((jya++[B1]))
def jxn:List AVal:=jyp++[B1]
def jxk:bg:=.vec 5 14 jxn
def jt0:bg:=.cells [(.ay 7 15 16,I),(.ay 5 13 12,I),(.ay 2 14 13,I)]
def Je:AVal:=.int .i64 16
def Jf:AVal:=.agg [Je,BZ,Jb,fO,.str []]
def jw5:List AVal:=jxn++[Jf]
def jrx:bg:=.vec 5 15 jw5
def jtu:bg:=.cells [(.ay 7 16 17,I),(.ay 5 13 11,I),(.ay 2 14 12,I)]
def U8:AVal:=.int .i64 17
def Jg:AVal:=.agg [U8,BZ,Jb,fO,.str []]
def jxz:List AVal:=jw5++[Jg]
def js5:bg:=.vec 5 16 jxz
def jvh:bg:=.cells [(.ay 7 17 18,I),(.ay 5 14 12,I),(.ay 2 15 13,I)]
def jyd:AVal:=.int .i64 91
def U9:AVal:=.agg ((Nc++[.list I 8 [.agg ((BX++[hJ,I4,.list I 3 [jug,.agg ((jvp++[jyd]))],.str [],vV,cj]))]]))
def Jh:bg:=.vec 4 15 ((I6++[U9]))
def Va:AVal:=.int .i64 18
def B2:AVal:=.agg [Va,U2,jrz,.list I 1 [pZ,jyd],.str []]
def Ji:bg:=.vec 5 14 ((I8++[B2]))
def jvi:List AVal:=jxz++[B2]
def jtb:bg:=.vec 5 17 jvi
def Vb:bg:=.cells [(.ay 7 18 19,I),(.ay 5 14 11,I),(.ay 2 15 12,I)]
def EZ:AVal:=.int .i64 19
def Jj:AVal:=.agg [EZ,BZ,Jb,fO,.str []]
def jx4:List AVal:=jvi++[Jj]
def Vc:bg:=.vec 5 18 jx4
def Vd:bg:=.cells [(.ay 7 19 20,I),(.ay 5 15 12,I),(.ay 2 16 13,I)]
def Ve:AVal:=.agg ((Nc++[.list I 8 [.agg ((BX++[hJ,I4,UZ,.str [],fT,cj]))]]))
def Vf:bg:=.vec 4 16 ((I6++[Ve]))
def Ng:AVal:=.int .i64 20
def zR:AVal:=.str [115,104,105,112]
def B3:AVal:=.agg [Ng,zR,vX,sA,.str []]
def Vg:bg:=.vec 5 15 ((I8++[B3]))
def js4:List AVal:=jx4++[B3]
def Vh:bg:=.vec 5 19 js4
def jx8:List AVal:=[UR,mT]
def jv7:List AVal:=[Na,qA]
def zho:List AVal:=jv7++[BS]
def jxs:List AVal:=zho++[.str [51]]
def B4:AVal:=.list I 1 [zR,qA,.str [51]]
def Vi:AVal:=.agg [xd,zR,vX,sA,.str []]
def Vj:AVal:=.agg [I7,zR,vX,sA,.str []]
def jm2:AVal:=.int .i64 31
def Vk:AVal:=.aC [zP,jm2]
def zdc:List AVal:=[U2,qA]
def zgd:List AVal:=zdc++[BW]
def jta:List AVal:=zgd++[.str [51]]
def Vl:AVal:=.agg [Ja,zR,vX,sA,.str []]
def jnb:AVal:=.int .i64 34
def Jk:AVal:=.list I 1 [BZ]
def Vm:AVal:=.agg [Jd,zR,vX,sA,.str []]
def jm6:AVal:=.int .i64 32
def Vn:AVal:=.agg [Je,zR,vX,sA,.str []]
def Vo:AVal:=.agg [EZ,zR,vX,sA,.str []]
def E0:AVal:=.int .i64 21
def jnj:AVal:=.agg [E0,BZ,Jb,fO,.str []]
def Vp:AVal:=.agg [E0,Na,jx7,jwh,.str []]
def jng:AVal:=.str [49,32,108,111,116,32,99,111,110,101,95,49,32,99,111,110,101,32,49,32,49,48]
def jnn:AVal:=.str [50,32,108,111,116,32,99,111,105,108,95,49,32,99,111,105,108,32,49,32,53]
def jnu:AVal:=.str [51,32,112,114,111,100,117,99,116,32,98,111,120,32,49]
def jm8:AVal:=.str [52,32,110,101,101,100,32,98,111,120,32,99,111,110,101,32,49,32,50]
def jmp:AVal:=.str [53,32,110,101,101,100,32,98,111,120,32,99,111,105,108,32,49,32,49]
def jni:AVal:=.str [54,32,116,101,115,116,32,98,111,120,32,115,119,101,101,112,32,49,32,56,48,32,57,48]
def jmo:AVal:=.str [55,32,105,115,115,117,101,32,98,111,120,32,50]
def jms:AVal:=.str [56,32,98,117,105,108,100,32,117,49,32,98,111,120,32,51]
def jnp:AVal:=.str [57,32,117,115,101,32,117,49,32,99,111,110,101,95,49,32,51,32,50]
def jnq:AVal:=.str [49,48,32,117,115,101,32,117,49,32,99,111,105,108,95,49,32,51,32,49]
def jnt:AVal:=.str [49,49,32,109,101,97,115,117,114,101,32,117,49,32,115,119,101,101,112,32,51,32,56,53]
def jmv:AVal:=.str [49,50,32,104,111,108,100,32,99,111,105,108,95,49,32,51]
def jnk:AVal:=.str [49,51,32,117,110,100,111]
def jne:AVal:=.str [49,52,32,105,115,115,117,101,32,98,111,120,32,51]
def jm3:AVal:=.str [49,53,32,117,112,100,97,116,101,32,117,49,32,51]
def jmu:AVal:=.str [49,54,32,117,110,100,111]
def jnc:AVal:=.str [49,55,32,117,110,100,111]
def jmr:AVal:=.str [49,56,32,109,101,97,115,117,114,101,32,117,49,32,115,119,101,101,112,32,51,32,57,49]
def jmw:AVal:=.str [49,57,32,117,110,100,111]
def jm0:AVal:=.str [50,48,32,115,104,105,112,32,117,49,32,51]
def Vq:AVal:=.list I 5 js4
def B5:List AVal:=[.ptr 0 0,.str [115,104,105,112,32,117,49,32,51]]
def Vr:AVal:=.aC [.str [],jm2]
def juq:List AVal:=[.ptr 0 0,.str [109,105,115,115,105,110,103,32,117,49]]
def jm7:AVal:=.aC [.str [110,111,110,101],cj]
def jxy:List AVal:=[.ptr 0 0,.str [115,116,111,99,107,32,99,111,105,108]]
def Jl:List AVal:=[.ptr 0 0,BZ]
def jwc:List AVal:=[.ptr 0 0,.str [115,104,105,112,112,101,100]]
def hw1:qh:=[dV,dV,.vec 4 0 [zP]]
def hw2:qh:=[.cells [(.ay 7 0 1,I),(.ay 5 0 1,I),(.ay 2 1 2,I)],dV,.vec 4 1 lv1,.map jn,.map qy,bv2,.hole,bv2]
def hw3:qh:=[bv3,dV,bv4,.map jn,.map qy,MZ,.hole,MZ,.map jn,.map qy]
def hw4:qh:=[bv3,dV,bv4,.map jn,.map qy,MZ,.hole,MZ]
def hw5:qh:=[bv6,dV,bv7,.map jn,.map qy,M0,.hole,M0,.map jn,.map qy]
def hw6:qh:=[bv6,dV,bv7,.map jn,.map qy,M0,.hole,M0]
def hw7:qh:=[bv9,dV,jr4,.map jn,.map qy,M3,.hole,M3,.map jn,.map qy]
def hw8:qh:=[bv9,dV,jr4,.map jn,.map qy,M3,.hole,M3]
def hw9:qh:=[jux,dV,jwe,.map jn,.map qy,M4,.hole,M4,.map jn,.map qy]
def zeh:qh:=[jux,dV,jwe,.map jn,.map qy,M4,.hole,M4]
def zg8:qh:=[jtn,dV,jwk,.map jn,.map qy,M5,.hole,M5,.map jn,.map qy]
def zje:qh:=[jtn,dV,jwk,.map jn,.map qy,M5,.hole,M5]
def zfu:qh:=[jue,dV,jt2,.map jn,.map qy,M6,.hole,M6,.map jn,.map qy]
def zg0:qh:=[jue,dV,jt2,.map jn,.map qy,M6,.hole,M6]
def zb0:qh:=[ju8,dV,jwg,.map jn,.map qy,M8,.hole,M8,.map jn,.map qy]
def zfe:qh:=[ju8,dV,jwg,.map jn,.map qy,M8,.hole,M8]
def jtl:qh:=[jr3,dV,jvl,.map jn,.map qy,Nb,.hole,Nb,.map jn,.map qy]
def jv2:qh:=[jr3,dV,jvl,.map jn,.map qy,Nb,.hole,Nb]
def jvx:qh:=[UW,dV,UX,.map jn,.map qy,ES,.hole,ES,.map jn,.map qy]
def Vs:qh:=[UW,dV,UX,.map jn,.map qy,ES,.hole,ES]
def ze8:qh:=[UW,dV,UX,.map jn,.map qy,ES,.hole,ES,.map jn]
def zeb:qh:=[UY,dV,U1,.map jn,.map qy,EV,.hole,EV,.map jn,.map qy]
def jsv:qh:=[UY,dV,U1,.map jn,.map qy,EV,.hole,EV]
def zju:qh:=[UY,dV,U1,.map jn,.map qy,EV,.hole,EV,.map jn]
def jx5:qh:=[U3,dV,I9,.map jn,.map qy,zQ,.hole,zQ,.map jn,.map qy]
def Vt:qh:=[U3,dV,I9,.map jn,.map qy,zQ,.hole,zQ]
def zb3:qh:=[U3,dV,I9,.map jn,.map qy,zQ,.hole,zQ,.map jn]
def zg7:qh:=[jw7,dV,I9,.map jn,.map qy,zQ,.hole,jyn,.map jn,.map qy]
def zj4:qh:=[jw7,dV,I9,.map jn,.map qy,zQ,.hole,jyn]
def jsz:qh:=[jyr,dV,jwi,.map jn,.map qy,jvb,.hole,jwp,.map jn,.map qy]
def jr5:qh:=[jyr,dV,jwi,.map jn,.map qy,jvb,.hole,jwp]
def jyf:qh:=[juv,dV,EX,.map jn,.map qy,EY,.hole,jxk,.map jn,.map qy]
def jy0:qh:=[juv,dV,EX,.map jn,.map qy,EY,.hole,jxk]
def zcy:qh:=[jt0,dV,EX,.map jn,.map qy,EY,.hole,jrx,.map jn,.map qy]
def zfg:qh:=[jt0,dV,EX,.map jn,.map qy,EY,.hole,jrx]
def zgs:qh:=[jtu,dV,EX,.map jn,.map qy,EY,.hole,js5,.map jn,.map qy]
def zjc:qh:=[jtu,dV,EX,.map jn,.map qy,EY,.hole,js5]
def js8:qh:=[jvh,dV,Jh,.map jn,.map qy,Ji,.hole,jtb,.map jn,.map qy]
def jvy:qh:=[jvh,dV,Jh,.map jn,.map qy,Ji,.hole,jtb]
def zgz:qh:=[Vb,dV,Jh,.map jn,.map qy,Ji,.hole,Vc,.map jn,.map qy]
def Jm:qh:=[Vb,dV,Jh,.map jn,.map qy,Ji,.hole,Vc]
def Nh:qh:=[Vb,dV,Jh,.map jn,.map qy,Ji,.hole,Vc,.map jn]
def Vu:qh:=[Vd,dV,Vf,.map jn,.map qy,Vg,.hole,Vh,.map jn,.map qy]
def Vv:qh:=[Vd,dV,Vf,.map jn,.map qy,Vg,.hole,Vh]
def zbk:qh:=[Vd,dV,Vf,.map jn,.map qy,Vg,.hole,Vh,.map jn]
def e1:Row:=([.list I 1 [MY,BS,EH,.str [49],.str [49,48]],hJ],.aC [BT,fT],I)
def e2:Row:=([BT],cj,I)
def e3:Row:=([zP,BT],.aC [UD,cj],I)
def e4:Row:=([.list I 1 [MY,xe,EI,.str [49],.str [53]],vW],.aC [EJ,fT],I)
def e5:Row:=([EJ],cj,I)
def e6:Row:=([UD,EJ],.aC [UE,cj],I)
def e7:Row:=([.list I 1 [jyh,mT,.str [49]],pZ],.aC [EK,fT],I)
def e8:Row:=([EK],cj,I)
def e9:Row:=([UE,EK],.aC [UF,cj],I)
def Vw:Row:=([.list I 1 [M2,mT,EH,.str [49],.str [50]],M1],.aC [EL,fT],I)
def Vx:Row:=([EL],cj,I)
def Vy:Row:=([UF,EL],.aC [UH,cj],I)
def Vz:Row:=([.list I 1 [M2,mT,EI,.str [49],.str [49]],BU],.aC [EM,fT],I)
def VA:Row:=([EM],cj,I)
def VB:Row:=([UH,EM],.aC [UJ,cj],I)
def VC:Row:=([.list I 1 [jsc,mT,BW,.str [49],.str [56,48],.str [57,48]],UM],.aC [EN,fT],I)
def VD:Row:=([EN],cj,I)
def VE:Row:=([UJ,EN],.aC [UL,cj],I)
def VF:Row:=([.list I 1 ((jx8++[.str [50]])),UQ],.aC [EO,fT],I)
def VG:Row:=([EO],cj,I)
def VH:Row:=([UL,EO],.aC [UO,cj],I)
def VI:Row:=([.list I 1 [js6,qA,mT,.str [51]],M7],.aC [EP,fT],I)
def VJ:Row:=([EP],cj,I)
def VK:Row:=([UO,EP],.aC [US,cj],I)
def VL:Row:=([.list I 1 ((jxs++[.str [50]])),UU],.aC [EQ,fT],I)
def VM:Row:=([EQ],cj,I)
def VN:Row:=([US,EQ],.aC [M9,cj],I)
def VO:Row:=([B4,xd],.aC [Vi,fT],I)
def VP:Row:=([Vi],cj,I)
def VQ:Row:=([M9,Vi],.aC [zP,Ng],I)
def VR:Row:=([.list I 1 ((jv7++[xe,.str [51],.str [49]])),xd],.aC [ER,fT],I)
def VS:Row:=([ER],cj,I)
def VT:Row:=([M9,ER],.aC [Nd,cj],I)
def VU:Row:=([B4,I7],.aC [Vj,fT],I)
def VW:Row:=([Vj],cj,I)
def VX:Row:=([Nd,Vj],Vk,I)
def VY:Row:=([.list I 1 ((jta++[.str [56,53]])),I7],.aC [EU,fT],I)
def VZ:Row:=([EU],cj,I)
def V0:Row:=([Nd,EU],.aC [ET,cj],I)
def V1:Row:=([.list I 1 [jyi,xe,.str [51]],U5],.aC [EW,fT],I)
def V2:Row:=([EW],cj,I)
def V3:Row:=([ET,EW],.aC [U4,cj],I)
def V4:Row:=([B4,Ja],.aC [Vl,fT],I)
def V5:Row:=([Vl],cj,I)
def V6:Row:=([U4,Vl],.aC [zP,jnb],I)
def V7:Row:=([Jk,Ja],.aC [Jc,fT],I)
def V8:Row:=([Jc],cj,I)
def V9:Row:=([.list I 1 ((jx8++[.str [51]])),U6],.aC [B0,fT],I)
def Wa:Row:=([B0],cj,I)
def Wb:Row:=([ET,B0],.aC [Nf,cj],I)
def Wc:Row:=([B4,Jd],.aC [Vm,fT],I)
def Wd:Row:=([Vm],cj,I)
def Wf:Row:=([Nf,Vm],.aC [zP,jm6],I)
def Wg:Row:=([.list I 1 [jvt,qA,.str [51]],Jd],.aC [B1,fT],I)
def Wh:Row:=([B1],cj,I)
def Wi:Row:=([Nf,B1],.aC [U7,cj],I)
def Wj:Row:=([B4,Je],.aC [Vn,fT],I)
def Wk:Row:=([Vn],cj,I)
def Wl:Row:=([U7,Vn],Vk,I)
def Wm:Row:=([Jk,Je],.aC [Jf,fT],I)
def Wn:Row:=([Jf],cj,I)
def Wo:Row:=([Jk,U8],.aC [Jg,fT],I)
def Wp:Row:=([Jg],cj,I)
def Wq:Row:=([.list I 1 ((jta++[.str [57,49]])),Va],.aC [B2,fT],I)
def Wr:Row:=([B2],cj,I)
def Ws:Row:=([ET,B2],.aC [U9,cj],I)
def Wt:Row:=([B4,EZ],.aC [Vo,fT],I)
def Wu:Row:=([Vo],cj,I)
def Wv:Row:=([U9,Vo],Vk,I)
def BM:Row:=([Jk,EZ],.aC [Jj,fT],I)
def Ww:Row:=([Jj],cj,I)
def Wx:Row:=([B4,Ng],.aC [B3,fT],I)
def Wy:Row:=([B3],cj,I)
def Wz:Row:=([ET,B3],.aC [Ve,cj],I)
def WA:Row:=([Jk,E0],.aC [jnj,fT],I)
def WB:Row:=([jnj],cj,I)
def WC:Row:=([.list I 1 ((jxs++[.str [49]])),E0],.aC [Vp,fT],I)
def WD:Row:=([Vp],cj,I)
def WE:Row:=([Ve,Vp],.aC [zP,E0],I)
def WG:Row:=([BT],jng,I)
def WH:Row:=([jng],.str [51,57,56,57,49,56,50],I)
def WI:Row:=([EJ],jnn,I)
def WJ:Row:=([jnn],.str [48,49,55,50,54,57,55],I)
def WK:Row:=([EK],jnu,I)
def WL:Row:=([jnu],.str [54,49,49,52,48,56,52],I)
def WM:Row:=([EL],jm8,I)
def WN:Row:=([jm8],.str [49,55,56,55,50,51,49],I)
def WO:Row:=([EM],jmp,I)
def WQ:Row:=([jmp],.str [50,52,55,55,51,52,50],I)
def WR:Row:=([EN],jni,I)
def WS:Row:=([jni],.str [50,48,50,49,51,55,56],I)
def WT:Row:=([EO],jmo,I)
def WU:Row:=([jmo],.str [57,55,57,50,54,57,53],I)
def WV:Row:=([EP],jms,I)
def WW:Row:=([jms],.str [48,55,51,51,57,54,55],I)
def WX:Row:=([EQ],jnp,I)
def WY:Row:=([jnp],.str [57,54,50,56,50,52,50],I)
def WZ:Row:=([ER],jnq,I)
def W0:Row:=([jnq],.str [51,51,55,48,50,52,48],I)
def W1:Row:=([EU],jnt,I)
def W2:Row:=([jnt],.str [56,50,52,48,49,52,56],I)
def W3:Row:=([EW],jmv,I)
def W4:Row:=([jmv],.str [53,50,48,49,49,53,55],I)
def W6:Row:=([Jc],jnk,I)
def W7:Row:=([jnk],.str [54,55,52,56,55,48,57],I)
def W8:Row:=([B0],jne,I)
def W9:Row:=([jne],.str [48,56,53,50,57,54,53],I)
def Xa:Row:=([B1],jm3,I)
def Xb:Row:=([jm3],.str [50,52,56,53,48,49,51],I)
def Xc:Row:=([Jf],jmu,I)
def Xd:Row:=([jmu],.str [56,51,50,54,51,57,51],I)
def Xe:Row:=([Jg],jnc,I)
def Xf:Row:=([jnc],.str [50,49,56,53,54,57,53],I)
def Xg:Row:=([B2],jmr,I)
def Xh:Row:=([jmr],.str [50,51,54,49,51,49,55],I)
def Xi:Row:=([Jj],jmw,I)
def Xj:Row:=([jmw],.str [57,57,48,52,48,55,55],I)
def Xk:Row:=([B3],jm0,I)
def Xl:Row:=([jm0],.str [53,49,49,54,56,51,51],I)
def Xm:Row:=([.str [49,32,108,111,116,32,99,111,110,101,95,49,32,99,111,110,101,32,49,32,49,48,35,51,57,56,57,49,56,50],cj],.aC [BT,cj],I)
def Xn:Row:=([.str [50,32,108,111,116,32,99,111,105,108,95,49,32,99,111,105,108,32,49,32,53,35,48,49,55,50,54,57,55],hJ],.aC [EJ,cj],I)
def Xo:Row:=([.str [51,32,112,114,111,100,117,99,116,32,98,111,120,32,49,35,54,49,49,52,48,56,52],vW],.aC [EK,cj],I)
def Xp:Row:=([.str [52,32,110,101,101,100,32,98,111,120,32,99,111,110,101,32,49,32,50,35,49,55,56,55,50,51,49],pZ],.aC [EL,cj],I)
def Xq:Row:=([.str [53,32,110,101,101,100,32,98,111,120,32,99,111,105,108,32,49,32,49,35,50,52,55,55,51,52,50],M1],.aC [EM,cj],I)
def Xr:Row:=([.str [54,32,116,101,115,116,32,98,111,120,32,115,119,101,101,112,32,49,32,56,48,32,57,48,35,50,48,50,49,51,55,56],BU],.aC [EN,cj],I)
def Xt:Row:=([.str [55,32,105,115,115,117,101,32,98,111,120,32,50,35,57,55,57,50,54,57,53],UM],.aC [EO,cj],I)
def Xu:Row:=([.str [56,32,98,117,105,108,100,32,117,49,32,98,111,120,32,51,35,48,55,51,51,57,54,55],UQ],.aC [EP,cj],I)
def Xv:Row:=([.str [57,32,117,115,101,32,117,49,32,99,111,110,101,95,49,32,51,32,50,35,57,54,50,56,50,52,50],M7],.aC [EQ,cj],I)
def Xw:Row:=([.str [49,48,32,117,115,101,32,117,49,32,99,111,105,108,95,49,32,51,32,49,35,51,51,55,48,50,52,48],UU],.aC [ER,cj],I)
def Xx:Row:=([.str [49,49,32,109,101,97,115,117,114,101,32,117,49,32,115,119,101,101,112,32,51,32,56,53,35,56,50,52,48,49,52,56],xd],.aC [EU,cj],I)
def Xy:Row:=([.str [49,50,32,104,111,108,100,32,99,111,105,108,95,49,32,51,35,53,50,48,49,49,53,55],I7],.aC [EW,cj],I)
def Xz:Row:=([.str [49,51,32,117,110,100,111,35,54,55,52,56,55,48,57],U5],.aC [Jc,cj],I)
def XA:Row:=([.str [49,52,32,105,115,115,117,101,32,98,111,120,32,51,35,48,56,53,50,57,54,53],Ja],.aC [B0,cj],I)
def XB:Row:=([.str [49,53,32,117,112,100,97,116,101,32,117,49,32,51,35,50,52,56,53,48,49,51],U6],.aC [B1,cj],I)
def XD:Row:=([.str [49,54,32,117,110,100,111,35,56,51,50,54,51,57,51],Jd],.aC [Jf,cj],I)
def XE:Row:=([.str [49,55,32,117,110,100,111,35,50,49,56,53,54,57,53],Je],.aC [Jg,cj],I)
def XF:Row:=([.str [49,56,32,109,101,97,115,117,114,101,32,117,49,32,115,119,101,101,112,32,51,32,57,49,35,50,51,54,49,51,49,55],U8],.aC [B2,cj],I)
def XG:Row:=([.str [49,57,32,117,110,100,111,35,57,57,48,52,48,55,55],Va],.aC [Jj,cj],I)
def XH:Row:=([.str [50,48,32,115,104,105,112,32,117,49,32,51,35,53,49,49,54,56,51,51],EZ],.aC [B3,cj],I)
def Qm:Row:=([Vq,jt4],.aC [vX,cj],I)
def Qn:Row:=([Vq,vX],.aC [.list I 1 [BS,xe],cj],I)
def Qo:Row:=([.str [49,32,108,111,116,32,99,111,110,101,95,49,32,99,111,110,101,32,49,32,49,48,35,51,57,56,57,49,56,50,10,50,32,108,111,116,32,99,111,105,108,95,49,32,99,111,105,108,32,49,32,53,35,48,49,55,50,54,57,55,10,51,32,112,114,111,100,117,99,116,32,98,111,120,32,49,35,54,49,49,52,48,56,52,10,52,32,110,101,101,100,32,98,111,120,32,99,111,110,101,32,49,32,50,35,49,55,56,55,50,51,49,10,53,32,110,101,101,100,32,98,111,120,32,99,111,105,108,32,49,32,49,35,50,52,55,55,51,52,50,10,54,32,116,101,115,116,32,98,111,120,32,115,119,101,101,112,32,49,32,56,48,32,57,48,35,50,48,50,49,51,55,56,10,55,32,105,115,115,117,101,32,98,111,120,32,50,35,57,55,57,50,54,57,53,10,56,32,98,117,105,108,100,32,117,49,32,98,111,120,32,51,35,48,55,51,51,57,54,55,10,57,32,117,115,101,32,117,49,32,99,111,110,101,95,49,32,51,32,50,35,57,54,50,56,50,52,50,10,49,48,32,117,115,101,32,117,49,32,99,111,105,108,95,49,32,51,32,49,35,51,51,55,48,50,52,48,10,49,49,32,109,101,97,115,117,114,101,32,117,49,32,115,119,101,101,112,32,51,32,56,53,35,56,50,52,48,49,52,56,10,49,50,32,104,111,108,100,32,99,111,105,108,95,49,32,51,35,53,50,48,49,49,53,55,10,49,51,32,117,110,100,111,35,54,55,52,56,55,48,57,10,49,52,32,105,115,115,117,101,32,98,111,120,32,51,35,48,56,53,50,57,54,53,10,49,53,32,117,112,100,97,116,101,32,117,49,32,51,35,50,52,56,53,48,49,51,10,49,54,32,117,110,100,111,35,56,51,50,54,51,57,51,10,49,55,32,117,110,100,111,35,50,49,56,53,54,57,53,10,49,56,32,109,101,97,115,117,114,101,32,117,49,32,115,119,101,101,112,32,51,32,57,49,35,50,51,54,49,51,49,55,10,49,57,32,117,110,100,111,35,57,57,48,52,48,55,55,10,50,48,32,115,104,105,112,32,117,49,32,51,35,53,49,49,54,56,51,51,10,49]],.aC [Vq,.int .i64 500,.int .i64 29],I)
def r1:kh:=([.ptr 0 0,.str [108,111,116,32,99,111,110,101,95,49,32,99,111,110,101,32,49,32,49,48]],hw1,.aC [.str [100,111,110,101,32,49],cj],I,hw2)
def r2:kh:=([.ptr 0 0,.str [108,111,116,32,99,111,105,108,95,49,32,99,111,105,108,32,49,32,53]],hw2,.aC [.str [100,111,110,101,32,50],cj],I,hw3)
def r3:kh:=([.ptr 0 0,.str [112,114,111,100,117,99,116,32,98,111,120,32,49]],hw4,.aC [.str [100,111,110,101,32,51],cj],I,hw5)
def r4:kh:=([.ptr 0 0,.str [110,101,101,100,32,98,111,120,32,99,111,110,101,32,49,32,50]],hw6,.aC [.str [100,111,110,101,32,52],cj],I,hw7)
def r5:kh:=([.ptr 0 0,.str [110,101,101,100,32,98,111,120,32,99,111,105,108,32,49,32,49]],hw8,.aC [.str [100,111,110,101,32,53],cj],I,hw9)
def r6:kh:=([.ptr 0 0,.str [116,101,115,116,32,98,111,120,32,115,119,101,101,112,32,49,32,56,48,32,57,48]],zeh,.aC [.str [100,111,110,101,32,54],cj],I,zg8)
def r7:kh:=([.ptr 0 0,.str [105,115,115,117,101,32,98,111,120,32,50]],zje,.aC [.str [100,111,110,101,32,55],cj],I,zfu)
def r8:kh:=([.ptr 0 0,.str [98,117,105,108,100,32,117,49,32,98,111,120,32,51]],zg0,.aC [.str [100,111,110,101,32,56],cj],I,zb0)
def r9:kh:=([.ptr 0 0,.str [117,115,101,32,117,49,32,99,111,110,101,95,49,32,51,32,50]],zfe,.aC [.str [100,111,110,101,32,57],cj],I,jtl)
def Ki:kh:=(B5,jv2,.aC [.str [],Ng],I,jtl)
def Km:kh:=([.ptr 0 0,.str [117,115,101,32,117,49,32,99,111,105,108,95,49,32,51,32,49]],jv2,.aC [.str [100,111,110,101,32,49,48],cj],I,jvx)
def Kq:kh:=(B5,Vs,Vr,I,jvx)
def Ku:kh:=(juq,Vs,.aC [BW,cj],I,ze8)
def Ky:kh:=([.ptr 0 0,.str [109,101,97,115,117,114,101,32,117,49,32,115,119,101,101,112,32,51,32,56,53]],Vs,.aC [.str [100,111,110,101,32,49,49],cj],I,zeb)
def KB:kh:=(juq,jsv,jm7,I,zju)
def KE:kh:=([.ptr 0 0,.str [104,111,108,100,32,99,111,105,108,95,49,32,51]],jsv,.aC [.str [100,111,110,101,32,49,50],cj],I,jx5)
def Kf:kh:=(B5,Vt,.aC [.str [],jnb],I,jx5)
def Kj:kh:=(jxy,Vt,.aC [.str [48],cj],I,zb3)
def Kn:kh:=(Jl,Vt,.aC [.str [100,111,110,101,32,49,51],cj],I,zg7)
def Kr:kh:=([.ptr 0 0,.str [105,115,115,117,101,32,98,111,120,32,51]],zj4,.aC [.str [100,111,110,101,32,49,52],cj],I,jsz)
def Kv:kh:=(B5,jr5,.aC [.str [],jm6],I,jsz)
def Kz:kh:=([.ptr 0 0,.str [117,112,100,97,116,101,32,117,49,32,51]],jr5,.aC [.str [100,111,110,101,32,49,53],cj],I,jyf)
def KC:kh:=(B5,jy0,Vr,I,jyf)
def KF:kh:=(Jl,jy0,.aC [.str [100,111,110,101,32,49,54],cj],I,zcy)
def Kg:kh:=(Jl,zfg,.aC [.str [100,111,110,101,32,49,55],cj],I,zgs)
def Kk:kh:=([.ptr 0 0,.str [109,101,97,115,117,114,101,32,117,49,32,115,119,101,101,112,32,51,32,57,49]],zjc,.aC [.str [100,111,110,101,32,49,56],cj],I,js8)
def Ko:kh:=(B5,jvy,Vr,I,js8)
def Ks:kh:=(Jl,jvy,.aC [.str [100,111,110,101,32,49,57],cj],I,zgz)
def Kx:kh:=([.ptr 0 0,.str [108,111,116,115,32,117,49]],Jm,.aC [.str [99,111,110,101,95,49,32,99,111,105,108,95,49],cj],I,Nh)
def KA:kh:=([.ptr 0 0,.str [115,116,111,99,107,32,99,111,110,101]],Jm,.aC [.str [56],cj],I,Nh)
def KD:kh:=(jxy,Jm,.aC [.str [52],cj],I,Nh)
def KG:kh:=(jwc,Jm,jm7,I,Nh)
def Kh:kh:=(B5,Jm,.aC [.str [100,111,110,101,32,50,48],cj],I,Vu)
def Kl:kh:=(Jl,Vv,.aC [.str [],EZ],I,Vu)
def Kp:kh:=([.ptr 0 0,.str [117,115,101,32,117,49,32,99,111,110,101,95,49,32,51,32,49]],Vv,.aC [.str [],E0],I,Vu)
def Kt:kh:=(jwc,Vv,.aC [qA,cj],I,zbk)
theorem w21:qc bI xL 113 VH.1=En VH.2:=by kernel_rfl
theorem w25:qc bI xL 102 VL.1=En VL.2:=by kernel_rfl
theorem w26:qc bI xL 47 VM.1=En VM.2:=by kernel_rfl
theorem w37:qc bI xL 102 VY.1=En VY.2:=by kernel_rfl
theorem w48:qc bI xL 102 V9.1=En V9.2:=by kernel_rfl
theorem w51:qc bI xL 102 Wc.1=En Wc.2:=by kernel_rfl
theorem w56:qc bI xL 113 Wi.1=En Wi.2:=by kernel_rfl
theorem w74:qc bI xL 113 Wz.1=En Wz.2:=by kernel_rfl
theorem w82:qc bI xL 137 WI.1=En WI.2:=by kernel_rfl
theorem w90:qc bI xL 137 WR.1=En WR.2:=by kernel_rfl
theorem w93:qc bI xL 138 WU.1=En WU.2:=by kernel_rfl
theorem zfx:qc bI xL 138 Xd.1=En Xd.2:=by kernel_rfl
theorem zjn:qc bI xL 138 Xh.1=En Xh.2:=by kernel_rfl
theorem ziv:qc bI xL 137 Xi.1=En Xi.2:=by kernel_rfl
theorem zkc:qc bI xL 137 Xk.1=En Xk.2:=by kernel_rfl
theorem zew:qc bI xL 85 Xn.1=En Xn.2:=by kernel_rfl
theorem zfm:qc bI xL 85 Xw.1=En Xw.2:=by kernel_rfl
theorem zka:qc bI xL 85 XD.1=En XD.2:=by kernel_rfl
theorem w4:qc bI xL 102 e4.1=En e4.2:=by kernel_rfl
theorem w11:qc bI xL 47 Vx.1=En Vx.2:=by kernel_rfl
theorem w18:qc bI xL 113 VE.1=En VE.2:=by kernel_rfl
theorem w19:qc bI xL 102 VF.1=En VF.2:=by kernel_rfl
theorem w29:qc bI xL 47 VP.1=En VP.2:=by kernel_rfl
theorem w38:qc bI xL 47 VZ.1=En VZ.2:=by kernel_rfl
theorem w45:qc bI xL 113 V6.1=En V6.2:=by kernel_rfl
theorem w46:qc bI xL 102 V7.1=En V7.2:=by kernel_rfl
theorem w53:qc bI xL 113 Wf.1=En Wf.2:=by kernel_rfl
theorem w57:qc bI xL 102 Wj.1=En Wj.2:=by kernel_rfl
theorem w61:qc bI xL 47 Wn.1=En Wn.2:=by kernel_rfl
theorem w64:qc bI xL 102 Wq.1=En Wq.2:=by kernel_rfl
theorem w91:qc bI xL 138 WS.1=En WS.2:=by kernel_rfl
theorem w96:qc bI xL 137 WX.1=En WX.2:=by kernel_rfl
theorem zcd:qc bI xL 138 Xf.1=En Xf.2:=by kernel_rfl
theorem zft:qc bI xL 85 Xp.1=En Xp.2:=by kernel_rfl
theorem zkf:qc bI xL 85 Xy.1=En Xy.2:=by kernel_rfl
theorem zcf:qc bI xL 85 XE.1=En XE.2:=by kernel_rfl
theorem w14:qc bI xL 47 VA.1=En VA.2:=by kernel_rfl
theorem w15:qc bI xL 113 VB.1=En VB.2:=by kernel_rfl
theorem w16:qc bI xL 102 VC.1=En VC.2:=by kernel_rfl
theorem w35:qc bI xL 47 VW.1=En VW.2:=by kernel_rfl
theorem w39:qc bI xL 113 V0.1=En V0.2:=by kernel_rfl
theorem w49:qc bI xL 47 Wa.1=En Wa.2:=by kernel_rfl
theorem w54:qc bI xL 102 Wg.1=En Wg.2:=by kernel_rfl
theorem w59:qc bI xL 113 Wl.1=En Wl.2:=by kernel_rfl
theorem w60:qc bI xL 102 Wm.1=En Wm.2:=by kernel_rfl
theorem w63:qc bI xL 47 Wp.1=En Wp.2:=by kernel_rfl
theorem w65:qc bI xL 47 Wr.1=En Wr.2:=by kernel_rfl
theorem w67:qc bI xL 102 Wt.1=En Wt.2:=by kernel_rfl
theorem zhe:qc bI xL 138 Xj.1=En Xj.2:=by kernel_rfl
theorem zjx:qc bI xL 85 Xm.1=En Xm.2:=by kernel_rfl
theorem zgp:qc bI xL 85 Xq.1=En Xq.2:=by kernel_rfl
theorem zgh:qc bI xL 85 Xt.1=En Xt.2:=by kernel_rfl
theorem ze2:qc bI xL 85 Xu.1=En Xu.2:=by kernel_rfl
theorem zj7:qc bI xL 85 XG.1=En XG.2:=by kernel_rfl
theorem w7:qc bI xL 102 e7.1=En e7.2:=by kernel_rfl
theorem w8:qc bI xL 47 e8.1=En e8.2:=by kernel_rfl
theorem w10:qc bI xL 102 Vw.1=En Vw.2:=by kernel_rfl
theorem w12:qc bI xL 113 Vy.1=En Vy.2:=by kernel_rfl
theorem w36:qc bI xL 113 VX.1=En VX.2:=by kernel_rfl
theorem w44:qc bI xL 47 V5.1=En V5.2:=by kernel_rfl
theorem w62:qc bI xL 102 Wo.1=En Wo.2:=by kernel_rfl
theorem w69:qc bI xL 113 Wv.1=En Wv.2:=by kernel_rfl
theorem w71:qc bI xL 47 Ww.1=En Ww.2:=by kernel_rfl
theorem w72:qc bI xL 102 Wx.1=En Wx.2:=by kernel_rfl
theorem w83:qc bI xL 138 WJ.1=En WJ.2:=by kernel_rfl
theorem w86:qc bI xL 137 WM.1=En WM.2:=by kernel_rfl
theorem w95:qc bI xL 138 WW.1=En WW.2:=by kernel_rfl
theorem zhb:qc bI xL 137 W1.1=En W1.2:=by kernel_rfl
theorem zha:qc bI xL 137 W8.1=En W8.2:=by kernel_rfl
theorem zkr:qc bI xL 85 Xo.1=En Xo.2:=by kernel_rfl
theorem zbi:qc bI xL 85 Xx.1=En Xx.2:=by kernel_rfl
theorem w9:qc bI xL 113 e9.1=En e9.2:=by kernel_rfl
theorem w13:qc bI xL 102 Vz.1=En Vz.2:=by kernel_rfl
theorem w20:qc bI xL 47 VG.1=En VG.2:=by kernel_rfl
theorem w22:qc bI xL 102 VI.1=En VI.2:=by kernel_rfl
theorem w33:qc bI xL 113 VT.1=En VT.2:=by kernel_rfl
theorem w40:qc bI xL 102 V1.1=En V1.2:=by kernel_rfl
theorem w41:qc bI xL 47 V2.1=En V2.2:=by kernel_rfl
theorem w52:qc bI xL 47 Wd.1=En Wd.2:=by kernel_rfl
theorem w66:qc bI xL 113 Ws.1=En Ws.2:=by kernel_rfl
theorem w70:qc bI xL 102 BM.1=En BM.2:=by kernel_rfl
theorem w76:qc bI xL 47 WB.1=En WB.2:=by kernel_rfl
theorem w87:qc bI xL 138 WN.1=En WN.2:=by kernel_rfl
theorem w88:qc bI xL 137 WO.1=En WO.2:=by kernel_rfl
theorem w99:qc bI xL 138 W0.1=En W0.2:=by kernel_rfl
theorem zb7:qc bI xL 138 W4.1=En W4.2:=by kernel_rfl
theorem ziu:qc bI xL 137 Xg.1=En Xg.2:=by kernel_rfl
theorem zjj:qc bI xL 85 XF.1=En XF.2:=by kernel_rfl
theorem w2:qc bI xL 47 e2.1=En e2.2:=by kernel_rfl
theorem w6:qc bI xL 113 e6.1=En e6.2:=by kernel_rfl
theorem w28:qc bI xL 102 VO.1=En VO.2:=by kernel_rfl
theorem w30:qc bI xL 113 VQ.1=En VQ.2:=by kernel_rfl
theorem w32:qc bI xL 47 VS.1=En VS.2:=by kernel_rfl
theorem w55:qc bI xL 47 Wh.1=En Wh.2:=by kernel_rfl
theorem w58:qc bI xL 47 Wk.1=En Wk.2:=by kernel_rfl
theorem w75:qc bI xL 102 WA.1=En WA.2:=by kernel_rfl
theorem w79:qc bI xL 113 WE.1=En WE.2:=by kernel_rfl
theorem w84:qc bI xL 137 WK.1=En WK.2:=by kernel_rfl
theorem w85:qc bI xL 138 WL.1=En WL.2:=by kernel_rfl
theorem w89:qc bI xL 138 WQ.1=En WQ.2:=by kernel_rfl
theorem zdi:qc bI xL 137 W6.1=En W6.2:=by kernel_rfl
theorem zhi:qc bI xL 85 Xr.1=En Xr.2:=by kernel_rfl
theorem zih:qc bI xL 85 Xv.1=En Xv.2:=by kernel_rfl
theorem zco:qc bI xL 85 XA.1=En XA.2:=by kernel_rfl
theorem zh8:qc bI xL 85 XH.1=En XH.2:=by kernel_rfl
theorem w3:qc bI xL 113 e3.1=En e3.2:=by kernel_rfl
theorem w23:qc bI xL 47 VJ.1=En VJ.2:=by kernel_rfl
theorem w27:qc bI xL 113 VN.1=En VN.2:=by kernel_rfl
theorem w31:qc bI xL 102 VR.1=En VR.2:=by kernel_rfl
theorem w34:qc bI xL 102 VU.1=En VU.2:=by kernel_rfl
theorem w42:qc bI xL 113 V3.1=En V3.2:=by kernel_rfl
theorem w68:qc bI xL 47 Wu.1=En Wu.2:=by kernel_rfl
theorem w78:qc bI xL 47 WD.1=En WD.2:=by kernel_rfl
theorem w80:qc bI xL 137 WG.1=En WG.2:=by kernel_rfl
theorem w81:qc bI xL 138 WH.1=En WH.2:=by kernel_rfl
theorem w92:qc bI xL 137 WT.1=En WT.2:=by kernel_rfl
theorem w97:qc bI xL 138 WY.1=En WY.2:=by kernel_rfl
theorem zcw:qc bI xL 137 W3.1=En W3.2:=by kernel_rfl
theorem zf5:qc bI xL 138 W9.1=En W9.2:=by kernel_rfl
theorem zbj:qc bI xL 137 Xc.1=En Xc.2:=by kernel_rfl
theorem zes:qc bI xL 138 Xl.1=En Xl.2:=by kernel_rfl
theorem zgv:qc bI xL 85 XB.1=En XB.2:=by kernel_rfl
theorem w1:qc bI xL 102 e1.1=En e1.2:=by kernel_rfl
theorem w5:qc bI xL 47 e5.1=En e5.2:=by kernel_rfl
theorem w17:qc bI xL 47 VD.1=En VD.2:=by kernel_rfl
theorem w24:qc bI xL 113 VK.1=En VK.2:=by kernel_rfl
theorem w43:qc bI xL 102 V4.1=En V4.2:=by kernel_rfl
theorem w47:qc bI xL 47 V8.1=En V8.2:=by kernel_rfl
theorem w50:qc bI xL 113 Wb.1=En Wb.2:=by kernel_rfl
theorem w73:qc bI xL 47 Wy.1=En Wy.2:=by kernel_rfl
theorem w77:qc bI xL 102 WC.1=En WC.2:=by kernel_rfl
theorem w94:qc bI xL 137 WV.1=En WV.2:=by kernel_rfl
theorem w98:qc bI xL 137 WZ.1=En WZ.2:=by kernel_rfl
theorem zia:qc bI xL 138 W2.1=En W2.2:=by kernel_rfl
theorem zfc:qc bI xL 138 W7.1=En W7.2:=by kernel_rfl
theorem zck:qc bI xL 137 Xa.1=En Xa.2:=by kernel_rfl
theorem zc9:qc bI xL 138 Xb.1=En Xb.2:=by kernel_rfl
theorem zfj:qc bI xL 137 Xe.1=En Xe.2:=by kernel_rfl
theorem ze4:qc bI xL 85 Xz.1=En Xz.2:=by kernel_rfl
end Go.Z
namespace Go.Z
open Go Go.Abs Go.Proofs
def XI:List (Nat×List Row):=[(47,[e2,e5,e8,Vx,VA,VD,VG,VJ,VM,VP,VS,VW,VZ,V2,V5,V8,Wa,Wd,Wh,Wk,Wn,Wp,Wr,Wu,Ww,Wy,WB,WD]),(85,[Xm,Xn,Xo,Xp,Xq,Xr,Xt,Xu,Xv,Xw,Xx,Xy,Xz,XA,XB,XD,XE,XF,XG,XH]),(113,[e3,e6,e9,Vy,VB,VE,VH,VK,VN,VQ,VT,VX,V0,V3,V6,Wb,Wf,Wi,Wl,Ws,Wv,Wz,WE]),(102,[e1,e4,e7,Vw,Vz,VC,VF,VI,VL,VO,VR,VU,VY,V1,V4,V7,V9,Wc,Wg,Wj,Wm,Wo,Wq,Wt,BM,Wx,WA,WC]),(137,[WG,WI,WK,WM,WO,WR,WT,WV,WX,WZ,W1,W3,W6,W8,Xa,Xc,Xe,Xg,Xi,Xk]),(138,[WH,WJ,WL,WN,WQ,WS,WU,WW,WY,W0,W2,W4,W7,W9,Xb,Xd,Xf,Xh,Xj,Xl])]
def tab:Nat→Option (List Row):=xJ XI
theorem j6v:Qq Tryz.prog tab:=
 Qr (t:=XI) ⟨⟨qg bL w2,qg bL w5,qg bL w8,qg bL w11,qg bL w14,qg bL w17,qg bL w20,qg bL w23,qg bL w26,qg bL w29,qg bL w32,qg bL w35,qg bL w38,qg bL w41,qg bL w44,qg bL w47,qg bL w49,qg bL w52,qg bL w55,qg bL w58,qg bL w61,qg bL w63,qg bL w65,qg bL w68,qg bL w71,qg bL w73,qg bL w76,qg bL w78,trivial⟩,⟨qg bL zjx,qg bL zew,qg bL zkr,qg bL zft,qg bL zgp,qg bL zhi,qg bL zgh,qg bL ze2,qg bL zih,qg bL zfm,qg bL zbi,qg bL zkf,qg bL ze4,qg bL zco,qg bL zgv,qg bL zka,qg bL zcf,qg bL zjj,qg bL zj7,qg bL zh8,trivial⟩,⟨qg bL w3,qg bL w6,qg bL w9,qg bL w12,qg bL w15,qg bL w18,qg bL w21,qg bL w24,qg bL w27,qg bL w30,qg bL w33,qg bL w36,qg bL w39,qg bL w42,qg bL w45,qg bL w50,qg bL w53,qg bL w56,qg bL w59,qg bL w66,qg bL w69,qg bL w74,qg bL w79,trivial⟩,⟨qg bL w1,qg bL w4,qg bL w7,qg bL w10,qg bL w13,qg bL w16,qg bL w19,qg bL w22,qg bL w25,qg bL w28,qg bL w31,qg bL w34,qg bL w37,qg bL w40,qg bL w43,qg bL w46,qg bL w48,qg bL w51,qg bL w54,qg bL w57,qg bL w60,qg bL w62,qg bL w64,qg bL w67,qg bL w70,qg bL w72,qg bL w75,qg bL w77,trivial⟩,⟨qg bL w80,qg bL w82,qg bL w84,qg bL w86,qg bL w88,qg bL w90,qg bL w92,qg bL w94,qg bL w96,qg bL w98,qg bL zhb,qg bL zcw,qg bL zdi,qg bL zha,qg bL zck,qg bL zbj,qg bL zfj,qg bL ziu,qg bL ziv,qg bL zkc,trivial⟩,⟨qg bL w81,qg bL w83,qg bL w85,qg bL w87,qg bL w89,qg bL w91,qg bL w93,qg bL w95,qg bL w97,qg bL w99,qg bL zia,qg bL zb7,qg bL zfc,qg bL zf5,qg bL zc9,qg bL zfx,qg bL zcd,qg bL zjn,qg bL zhe,qg bL zes,trivial⟩,trivial⟩
def dT:j8:={ bM:=bI.bM,cG:=fun k=>match tab k with
 |some l=>En fun args=>Dn args l
 |none=>Ux k,dG:=bI.dG,maps:=bI.maps }
theorem dX:bW Tryz.prog dT where
 fn:=bL.fn
 iE:=by
  intro k f hf
  simp only[dT]at hf
  split at hf
  ·rename_i l hl
   cases hf
   exact⟨uW (Qs XI (by kernel_rfl) k l hl),fun args v o hv _ _=>j6v k l hl _ (Qt hv)⟩
  ·exact bL.iE k f hf
 mixed:=bL.mixed
 fU:=bL.fU
 maps:=bL.maps
abbrev xA:=iF dT 1000
end Go.Z
