/- Parts of the proof: OpC. -/
import Derived.Test.YthoagdpakddbdaaGreatDoorD1
import Derived.Test.YthoagdpakddbdaaGreatDoorD25
import Derived.Test.YthoagdpakddbdaaGreatDoorD40
import Derived.ChangeArms
namespace Go.Proofs.YthoagdpakddbdaaGreatDoor
open Go.ChangeShapes Go.WideShapes Go.ChangeAt Go.RowKit Go.Deep
theorem Quk {α:Type}:∀ {l:List α},l.length=5→∃ a b c d e,l=[a,b,c,d,e]
 | [a,b,c,d,e],_=>⟨a,b,c,d,e,rfl⟩
section
variable {H:Type} {enc:TypeId×Value→H} {w:World} {base:Nat} {spare:Nat→Bool} {held:Bool}
theorem rel_chn (fuel:Nat)(cs:List Value)(x:DataW H×List MemPlace)(h:DataW.trod enc Tryz.prog w base spare held fuel 71 cs=some x):∃ p:Chn,cs=[.int .i64 p.1,.int .i64 p.2.1,.int .i64 p.2.2.1,.int .i64 p.2.2.2.1,.int .i64 p.2.2.2.2]:=by
 obtain ⟨xs,m,_,_,hcl,hxl,hi⟩:=DataW.trod_struct Tryz.underlying71 h;have hxl':xs.length=5:=hxl;have a0:DataW.trod enc Tryz.prog w base spare held m 3 ((cs.drop 0).take (Tryz.prog.cellsOf 3))=xs[0]?:=hi 0 _ rfl;have a1:DataW.trod enc Tryz.prog w base spare held m 3 ((cs.drop 1).take (Tryz.prog.cellsOf 3))=xs[1]?:=hi 1 _ rfl;have a2:DataW.trod enc Tryz.prog w base spare held m 3 ((cs.drop 2).take (Tryz.prog.cellsOf 3))=xs[2]?:=hi 2 _ rfl;have a3:DataW.trod enc Tryz.prog w base spare held m 3 ((cs.drop 3).take (Tryz.prog.cellsOf 3))=xs[3]?:=hi 3 _ rfl;have a4:DataW.trod enc Tryz.prog w base spare held m 2 ((cs.drop 4).take (Tryz.prog.cellsOf 2))=xs[4]?:=hi 4 _ rfl;rw [Zg (by omega)] at a0 a1 a2 a3 a4;obtain ⟨n0,e0,_⟩:=DataW.trod_int Tryz.underlying3 a0;obtain ⟨n1,e1,_⟩:=DataW.trod_int Tryz.underlying3 a1;obtain ⟨n2,e2,_⟩:=DataW.trod_int Tryz.underlying3 a2;obtain ⟨n3,e3,_⟩:=DataW.trod_int Tryz.underlying3 a3;obtain ⟨n4,e4,_⟩:=DataW.trod_int Tryz.underlying2 a4;rw [show Tryz.prog.cellsOf 71=5 by kernel_rfl] at hcl
 rw [show Tryz.prog.cellsOf 3=1 by kernel_rfl] at e0 e1 e2 e3
 rw [show Tryz.prog.cellsOf 2=1 by kernel_rfl] at e4
 clear a0 a1 a2 a3 a4 hi h;obtain ⟨c0,c1,c2,c3,c4,rfl⟩:=Quk hcl;simp at e0 e1 e2 e3 e4;exact ⟨(n0,n1,n2,n3,n4),by simp [e0,e1,e2,e3,e4]⟩
theorem Qph {A:Option Addr}{n c fuel:Nat}{x:DataW H×List MemPlace} (h:DataW.trod enc Tryz.prog w base spare held fuel 57 [.slice A n c]=some x) :
 ∃ l:List Chn,Qha w A n l∧n≤c∧c≤9223372036854775807:=by
 obtain ⟨l,hl,hnc,hcm,_,hr⟩:=Qdz Tryz.underlying57 (k:=5) (by kernel_rfl) (by omega) (fun cs (p:Chn)=>cs=[.int .i64 p.1,.int .i64 p.2.1,.int .i64 p.2.2.1,.int .i64 p.2.2.2.1,.int .i64 p.2.2.2.2]) rel_chn h;refine ⟨l,⟨hl,fun i p hp=>?_⟩,hnc,hcm⟩;obtain ⟨b,o,us,e5,rfl,_,hv⟩:=hr i p hp;exact ⟨b,o,e5,by have:=hv 0 _ rfl;simpa using this,hv 1 _ rfl,hv 2 _ rfl,hv 3 _ rfl,hv 4 _ rfl⟩
end
end Go.Proofs.YthoagdpakddbdaaGreatDoor
