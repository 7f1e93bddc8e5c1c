/- The program with the result of the fixed examples. -/
import Derived.Test.YtnjngdcbkkonnaaGreatDoorA2
import Derived.Test.YtnjngdcbkkonnaaGreatDoorZS2
import Derived.Test.YtnjngdcbkkonnaaGreatDoorZL
import Derived.Lib.SplitLaws
set_option linter.unusedVariables false
set_option linter.unusedSimpArgs false
set_option maxRecDepth 100000
namespace Go.Z
open Go Go.Abs Go.Proofs
def tAw:List AVal→Option (AVal × Bool)
 | []=>some (.bool true,false)
 | _=>none
def qxg:qd6:=fun k=>bif Nat.beq k 16 then some tAw else none
def opZ:Nat→Bool:=fun k=>Nat.ble 3 k && Nat.ble k 15
noncomputable def prZ:jk:=kn prE qxg opZ
theorem okZ:ProgOk Tryz.prog prZ:=qmo okE (by
 intro k f hf
 simp only [qxg,Bool.cond_eq_ite] at hf
 split at hf
 ·next hb=>
  cases hf
  obtain rfl:=Nat.eq_of_beq_eq_true hb
  refine ⟨qaa (k:=16) (by kernel_rfl),fun args v o h _ _=>?_⟩
  cases args with
  | nil=>cases h; exact qyo
  | cons a l=>cases h
 ·cases hf)
theorem atZ {k:Nat} (ho:opZ k=false) (hm:qxg k=none) {args:List AVal} {v:AVal} {o:Bool} (h:qd prE (X prE) k args=some (v,o)) (hv:below 0 v=true):qd prZ (X prZ) k args=some (v,o):=qm5 ho hm h hv
def E16:Option Bool:=some true
theorem Q16 {r} (h:E16=some r):qd prZ (X prZ) 16 []=some (.bool r,false):=by
 cases h
 exact qfe (f:=tAw) rfl rfl rfl rfl
end Go.Z
namespace Go.Z
open Go Go.Abs Go.Proofs Go.RowKit
theorem qqb {s p:List UInt8} (hs:s.length≤9223372036854775807):zj Tryz.prog 151 [.str s,.str p] (.tup [.str (Lib.trimSuffix s p),.bool (Lib.hasSuffix s p)]) false:=by
 refine qgw fun K w vs ht hk hr=>?_
 cases hr with
 | cons _ _ v vs hx hr=>
  cases hr with
  | cons _ _ v2 vs hx2 hr=>
   cases hr
   obtain rfl:=Rep.str_inv hx
   obtain rfl:=Rep.str_inv hx2
   refine ⟨_,.tup _ [_,_] (.cons _ _ _ _ (.str _) (.cons _ _ _ _ (.bool _) .nil)),(Tryz.strings_CutSuffix ⟨⟨s⟩⟩ ⟨⟨p⟩⟩ w hs).mono ?_⟩
   rintro e w' ⟨rfl,rfl⟩
   exact ⟨rfl,Ext.refl _⟩
theorem qqf {s:List UInt8} {c:Int}:zj Tryz.prog 187 [.str s,.int .u8 c] (.int .i64 (Lib.indexByte s c.toNat.toUInt8)) false:=by
 refine qgw fun K w vs ht hk hr=>?_
 cases hr with
 | cons _ _ v vs hx hr=>
  cases hr with
  | cons _ _ v2 vs hx2 hr=>
   cases hr
   obtain rfl:=Rep.str_inv hx
   obtain rfl:=Rep.int_inv hx2
   refine ⟨_,.int _ _,(Tryz.strings_IndexByte ⟨⟨s⟩⟩ c w).mono ?_⟩
   rintro e w' ⟨rfl,rfl⟩
   exact ⟨rfl,Ext.refl _⟩
theorem qzh {s p:List UInt8} (hs:s.length < 4294967281) (hp:1≤p.length):zj Tryz.prog 189 [.str s,.str p] (.list false 1 ((Lib.splitB ⟨⟨p⟩⟩ 0 (Lib.countB ⟨⟨s⟩⟩ ⟨⟨p⟩⟩) ⟨⟨s⟩⟩).map fun x=>.str x.data.toList)) false:=by
 refine q03 (us:=(Lib.splitB ⟨⟨p⟩⟩ 0 (Lib.countB ⟨⟨s⟩⟩ ⟨⟨p⟩⟩) ⟨⟨s⟩⟩).map Value.string) (t:=9) (fun x hx=>?_) (fun K=>qst _) (fun u hu=>?_) fun K w vs ht hk hr=>?_
 ·obtain ⟨y,_,rfl⟩:=List.mem_map.1 hx; rfl
 ·obtain ⟨y,_,rfl⟩:=List.mem_map.1 hu; rfl
 ·cases hr with
  | cons _ _ v vs hx hr=>
   cases hr with
   | cons _ _ v2 vs hx2 hr=>
    cases hr
    obtain rfl:=Rep.str_inv hx
    obtain rfl:=Rep.str_inv hx2
    have hg0:Tryz.prog.globalNamed qc6=some 2:=by kernel_rfl
    obtain ⟨m,hm⟩:=ht.length hg0
    refine (Tryz.strings_Split ⟨⟨s⟩⟩ ⟨⟨p⟩⟩ m w hs hm hp).mono ?_
    rintro e w' ⟨rfl,rfl⟩
    refine ⟨?_,rfl⟩
    rw [List.length_map,Lib.splitB_all ⟨⟨p⟩⟩ hp 0 _ ⟨⟨s⟩⟩ rfl]
end Go.Z
namespace Go.Z
open Go Go.Abs Go.Proofs
noncomputable def qhg (s p:List UInt8):Option (List UInt8 × Bool):=exO (s.length≤9223372036854775807) (Lib.trimSuffix s p,Lib.hasSuffix s p)
noncomputable def qo1 (s:List UInt8) (c:Int):Option Int:=some (Lib.indexByte s c.toNat.toUInt8)
noncomputable def qpd (s p:List UInt8):Option (Option (List (List UInt8))):=exO (s.length < 4294967281∧1≤p.length) (some ((Lib.splitB ⟨⟨p⟩⟩ 0 (Lib.countB ⟨⟨s⟩⟩ ⟨⟨p⟩⟩) ⟨⟨s⟩⟩).map fun x=>x.data.toList))
noncomputable def qwi:List AVal→Option (AVal × Bool)
 | [.str s,.str p]=>(qhg s p).map fun r=>(.tup [.str r.1,.bool r.2],false)
 | _=>none
noncomputable def qv2:List AVal→Option (AVal × Bool)
 | [.str s,.int .u8 c]=>(qo1 s c).map fun r=>(.int .i64 r,false)
 | _=>none
noncomputable def qw9:List AVal→Option (AVal × Bool)
 | [.str s,.str p]=>(qpd s p).map fun r=>(sl 1 zi r,false)
 | _=>none
noncomputable def qv5:qd6:=fun k=>bif Nat.beq k 151 then some qwi else bif Nat.beq k 187 then some qv2 else bif Nat.beq k 189 then some qw9 else none
def opV (k:Nat):Bool:=[14,15,93,152].any (Nat.beq k)
noncomputable def prV:jk:=kn prZ qv5 opV
theorem q4d {args v o} (h:qwi args=some (v,o)):zj Tryz.prog 151 args v o:=by
 unfold qwi at h; split at h
 ·obtain ⟨r,h1,h2⟩:=Option.map_eq_some_iff.1 h
  cases h2; obtain ⟨ha,rfl⟩:=qiu h1; exact qqb ha
 ·cases h
theorem q3m {args v o} (h:qv2 args=some (v,o)):zj Tryz.prog 187 args v o:=by
 unfold qv2 at h; split at h
 ·obtain ⟨r,h1,h2⟩:=Option.map_eq_some_iff.1 h
  cases h2; cases h1; exact qqf
 ·cases h
theorem q3e {args v o} (h:qw9 args=some (v,o)):zj Tryz.prog 189 args v o:=by
 unfold qw9 at h; split at h
 ·obtain ⟨r,h1,h2⟩:=Option.map_eq_some_iff.1 h
  cases h2; obtain ⟨⟨ha,hb⟩,rfl⟩:=qiu h1
  have:=qzh ha hb
  show zj Tryz.prog 189 _ (.list false 1 (((Lib.splitB _ 0 _ _).map fun x=>x.data.toList).map zi)) false
  rw [List.map_map]
  exact this
 ·cases h
theorem okV:ProgOk Tryz.prog prV:=qmo okZ (by
 intro k f hf
 simp only [qv5,Bool.cond_eq_ite] at hf
 split at hf
 ·next hb=>cases hf; obtain rfl:=Nat.eq_of_beq_eq_true hb; exact ⟨qaa (k:=151) (by kernel_rfl),fun args v o h _ _=>q4d h⟩
 split at hf
 ·next hb=>cases hf; obtain rfl:=Nat.eq_of_beq_eq_true hb; exact ⟨qaa (k:=187) (by kernel_rfl),fun args v o h _ _=>q3m h⟩
 split at hf
 ·next hb=>cases hf; obtain rfl:=Nat.eq_of_beq_eq_true hb; exact ⟨qaa (k:=189) (by kernel_rfl),fun args v o h _ _=>q3e h⟩
 ·cases hf)
theorem atV {k:Nat} (ho:opV k=false) (hm:qv5 k=none) {args:List AVal} {v:AVal} {o:Bool} (h:qd prZ (X prZ) k args=some (v,o)) (hv:Abs.below 0 v=true):qd prV (X prV) k args=some (v,o):=qm5 ho hm h hv
theorem q77 {s p:List UInt8} {r} (h:qhg s p=some r):qd prV (X prV) 151 [.str s,.str p]=some (.tup [.str r.1,.bool r.2],false):=qfe (f:=qwi) rfl rfl (by show (qhg s p).map _=_; rw [h]; rfl) rfl
theorem jjm {s:List UInt8} {c:Int} {r} (h:qo1 s c=some r):qd prV (X prV) 187 [.str s,.int .u8 c]=some (.int .i64 r,false):=qfe (f:=qv2) rfl rfl (by show (qo1 s c).map (fun r=>((AVal.int .i64 r),false))=_; rw [h]; rfl) rfl
theorem jh7 {s p:List UInt8} {r} (h:qpd s p=some r):qd prV (X prV) 189 [.str s,.str p]=some (sl 1 zi r,false):=qfe (f:=qw9) rfl rfl (by show (qpd s p).map _=_; rw [h]; rfl) (show Abs.below 0 _=true from by simp only [go_sem,seval])
end Go.Z
