/- Parts of the proof: Voc, App, Bas. -/
import Derived.Test.YthoagdpakddbdaaGreatDoorProg
import Derived.WalkKit
import Derived.Lib.Hide
import Derived.Deep.AppendLies
import Derived.Deep.Draws
import Derived.Laws.OwnMore
import Derived.Maps.AppendAt
import Derived.RegionTactic
import Derived.OwnWalk
import Derived.Laws.CopyOwn
import Derived.Deep.QuietTactic
import Derived.BigQuiet
import Derived.Deep.RegionHeld3
import Derived.Deep.DrawnRows
namespace Go.Proofs.YthoagdpakddbdaaGreatDoor
open Go.RowKit Go.Proofs.Tryz
theorem Qag {w:World}{a:Addr}{v:Value}(h:w.cell? a=some v):a.block<w.heap.size:=by
 rcases Nat.lt_or_ge a.block w.heap.size with hlt|hge
 · exact hlt
 · unfold World.cell? at h;rw [Array.getElem?_eq_none hge] at h;cases h
theorem Qap {B:Nat}{a w:World}(h:Below B a w)(n:Nat):Below B a (w.drewN n):=⟨h.os,h.tape,h.output,h.size,h.block⟩
theorem Zc {B:Nat}{w w':World}(h:Below B w w'){a:Addr}{v:Value}(hB:w.heap.size≤B)(hc:w.cell? a=some v):w'.cell? a=some v :=
 (h.cell (by have:=Qag hc;omega)).trans hc
theorem Zb {w p q:World}(h:Below w.heap.size w p)(g:Below p.heap.size p q):Below w.heap.size w q:=h.trans (g.mono h.size)
theorem Bel.alloc {w p:World}{o:Obj}(h:Below w.heap.size w p):Below w.heap.size w (p.alloc o):=Below.alloc h h.size o
def RdK (k:IntKind)(w:World)(A:Option Addr)(n:Nat)(l:List Int):Prop :=
 l.length=n∧∀ i x,l[i]?=some x→∃ b o,A=some ⟨b,o,none⟩∧w.cell? ⟨b,o+i,none⟩=some (.int k x)
abbrev RdI:=RdK .i64
theorem RdK.at_ {k:IntKind}{w:World}{A:Option Addr}{n i:Nat}{l:List Int}(h:RdK k w A n l)(hi:i<n) :
 ∃ b o x,A=some ⟨b,o,none⟩∧l[i]?=some x∧w.cell? ⟨b,o+i,none⟩=some (.int k x):=by
 have hl:i<l.length:=by rw [h.1];exact hi
 obtain ⟨b,o,e,hc⟩:=h.2 i _ (List.getElem?_eq_getElem hl);exact ⟨b,o,_,e,List.getElem?_eq_getElem hl,hc⟩
theorem RdK.below {k:IntKind}{w w':World}{A:Option Addr}{n:Nat}{l:List Int}(h:RdK k w A n l)(hb:Below w.heap.size w w'):RdK k w' A n l :=
 ⟨h.1,fun i x hx=>by obtain ⟨b,o,e,hc⟩:=h.2 i x hx;exact ⟨b,o,e,Zc hb (Nat.le_refl _) hc⟩⟩
def RdB (w:World)(A:Option Addr)(n:Nat)(l:List Bool):Prop :=
 l.length=n∧∀ i x,l[i]?=some x→∃ b o,A=some ⟨b,o,none⟩∧w.cell? ⟨b,o+i,none⟩=some (.bool x)
theorem RdB.at_ {w:World}{A:Option Addr}{n i:Nat}{l:List Bool}(h:RdB w A n l)(hi:i<n) :
 ∃ b o x,A=some ⟨b,o,none⟩∧l[i]?=some x∧w.cell? ⟨b,o+i,none⟩=some (.bool x):=by
 have hl:i<l.length:=by rw [h.1];exact hi
 obtain ⟨b,o,e,hc⟩:=h.2 i _ (List.getElem?_eq_getElem hl);exact ⟨b,o,_,e,List.getElem?_eq_getElem hl,hc⟩
theorem RdB.below {w w':World}{A:Option Addr}{n:Nat}{l:List Bool}(h:RdB w A n l)(hb:Below w.heap.size w w'):RdB w' A n l :=
 ⟨h.1,fun i x hx=>by obtain ⟨b,o,e,hc⟩:=h.2 i x hx;exact ⟨b,o,e,Zc hb (Nat.le_refl _) hc⟩⟩
def RdP (w:World)(A:Option Addr)(n:Nat) (l:List (Int×Int)):Prop :=
 l.length=n∧∀ i x,l[i]?=some x→∃ b o,A=some ⟨b,o,none⟩∧w.cell? ⟨b,o+i*2,none⟩=some (.int .i64 x.1)∧w.cell? ⟨b,o+i*2+1,none⟩=some (.int .i64 x.2)
theorem RdP.at_ {w:World}{A:Option Addr}{n i:Nat} {l:List (Int×Int)} (h:RdP w A n l) (hi:i<n) :
 ∃ b o x y,A=some ⟨b,o,none⟩∧l[i]?=some (x,y)∧w.cell? ⟨b,o+i*2,none⟩=some (.int .i64 x)∧w.cell? ⟨b,o+i*2+1,none⟩=some (.int .i64 y):=by
 have hl:i<l.length:=by rw [h.1];exact hi
 obtain ⟨b,o,e,hc⟩:=h.2 i _ (List.getElem?_eq_getElem hl);exact ⟨b,o,_,_,e,List.getElem?_eq_getElem hl,hc.1,hc.2⟩
def Blk (w:World)(g:Nat)(t:TypeId)(cs:Array Value):Prop:=w.heap[g]?=some (.cells cs t (0,0))
section
variable {w w':World} {g:Nat} {t:TypeId} {cs:Array Value}
theorem Blk.lt (h:Blk w g t cs):g<w.heap.size:=by
 rcases Nat.lt_or_ge g w.heap.size with hlt|hge
 · exact hlt
 · unfold Blk at h;rw [Array.getElem?_eq_none hge] at h;cases h
theorem Blk.cell (h:Blk w g t cs)(i:Nat):w.cell? ⟨g,i,none⟩=cs[i]?:=cell_of_row w g i cs t (0,0) h
theorem Blk.frozen (h:Blk w g t cs)(i:Nat):w.frozen? ⟨g,i,none⟩=false:=by
 unfold Blk at h;simp [World.frozen?,h]
theorem Blk.new (w:World)(t:TypeId)(cs:Array Value):Blk (w.alloc (.cells cs t)) w.heap.size t cs:=heap_alloc_new w _
theorem Blk.new' (w:World)(t:TypeId)(cs:Array Value){g:Nat}(h:g=w.heap.size):Blk (w.alloc (.cells cs t)) g t cs:=by subst h;exact Blk.new w t cs
theorem Blk.drewN (h:Blk w g t cs)(n:Nat):Blk (w.drewN n) g t cs:=h
theorem Blk.drew (h:Blk w g t cs):Blk w.drew g t cs:=h
theorem Blk.alloc (h:Blk w g t cs)(o:Obj):Blk (w.alloc o) g t cs:=(Below.heap_alloc w o g h.lt).trans h
theorem Blk.set_ (h:Blk w g t cs)(i:Nat)(u:Value):Blk (w.setCell ⟨g,i,none⟩ u) g t (cs.setIfInBounds i u):=by
 unfold Blk at h ⊢;simp [World.setCell,Array.getElem?_modify,h]
theorem Blk.far (h:Blk w g t cs){p:Addr}(hp:g≠p.block)(u:Value):Blk (w.setCell p u) g t cs:=(Below.heap_setCell w p u g hp).trans h
theorem Blk.below {B:Nat}(h:Blk w g t cs)(hb:Below B w w')(hg:g<B):Blk w' g t cs:=(hb.block g hg).trans h
end
def Qba (z:Value)(n:Nat):Array Value:=(List.replicate n z).toArray
def Qcf (l:List Int):Array Value:=(l.map (Value.int .i64)).toArray
def Qdh (l:List Bool):Array Value:=(l.map Value.bool).toArray
theorem Qdo (n:Nat):Qba (.int .i64 0) n=Qcf (List.replicate n 0):=by simp [Qba,Qcf]
theorem Qsk (n:Nat):Qba (.bool false) n=Qdh (List.replicate n false):=by simp [Qba,Qdh]
theorem Qqy (l:List Int)(i:Nat):(Qcf l)[i]?=(l[i]?).map (Value.int .i64):=by simp [Qcf]
theorem Qob (l:List Bool)(i:Nat):(Qdh l)[i]?=(l[i]?).map Value.bool:=by simp [Qdh]
theorem ints_set (l:List Int)(i:Nat)(x:Int):(Qcf l).setIfInBounds i (.int .i64 x)=Qcf (l.set i x):=by simp [Qcf,List.map_set]
theorem Qud (l:List Bool)(i:Nat)(x:Bool):(Qdh l).setIfInBounds i (.bool x)=Qdh (l.set i x):=by simp [Qdh,List.map_set]
theorem Blk.rdI {w:World}{g:Nat}{t:TypeId}{l:List Int} (h:Blk w g t (Qcf l)) {n:Nat} (hn:l.length=n):RdI w (some ⟨g,0,none⟩) n l :=
 ⟨hn,fun i x hx=>⟨g,0,rfl,by rw [Nat.zero_add,h.cell,Qqy,hx];rfl⟩⟩
theorem Blk.rdB {w:World}{g:Nat}{t:TypeId}{l:List Bool} (h:Blk w g t (Qdh l)) {n:Nat} (hn:l.length=n):RdB w (some ⟨g,0,none⟩) n l :=
 ⟨hn,fun i x hx=>⟨g,0,rfl,by rw [Nat.zero_add,h.cell,Qob,hx];rfl⟩⟩
theorem Blk.cellI {w:World}{g i:Nat}{t:TypeId}{l:List Int}{x:Int} (h:Blk w g t (Qcf l)) (hx:l[i]?=some x):w.cell? ⟨g,i,none⟩=some (.int .i64 x):=by
 rw [h.cell,Qqy,hx];rfl
theorem Blk.cellB {w:World}{g i:Nat}{t:TypeId}{l:List Bool}{x:Bool} (h:Blk w g t (Qdh l)) (hx:l[i]?=some x):w.cell? ⟨g,i,none⟩=some (.bool x):=by
 rw [h.cell,Qob,hx];rfl
theorem Qdt {P:Program}(t e:TypeId)(z:Value)(by_:Nat) (hinfo:(P.info? e).map (fun i=>(i.zero,i.size,i.bytes))=some (some z,1,by_)) (ht:P.underlying t=some (.slice e)) (hz1:z.cells=#[z])
 (n:Nat) (hb:by_*n≤281474976710656) (h63:n≤9223372036854775807) (kl kc:IntKind) (w:World) :
 (Instr.makeSlice t (.int kl (n:Int)) (.int kc (n:Int))).run P w=.ok (.slice (some ⟨w.heap.size,0,none⟩) n n) (w.alloc (.cells (Qba z n) e)):=by
 obtain ⟨i,hi,hz,hs,hbb⟩:=info_parts hinfo
 have hb':(i.bytes:Int)*(n:Int)≤281474976710656:=by
  rw [hbb];have h:((by_*n:Nat):Int)≤281474976710656:=by omega
  rwa [Int.natCast_mul] at h
 have hr:=run_make (P:=P) w t e i z ht hi hz kl kc n n (by omega) (by omega) hb' (by omega);simp only [Int.toNat_natCast] at hr
 have hm:madeCells z.cells (n*i.size)=Qba z n:=by
  rw [hs,Nat.mul_one,hz1]
  apply Array.ext'
  rw [toList_madeCells_one];simp [Qba]
 rw [hm] at hr;exact hr
def cutA (s:Nat)(A:Option Addr)(m c:Nat):Option Addr:=if c=m then A else A.map (·.add (m*s))
theorem Qnw {P:Program}(t e:TypeId)(s:Nat) (ht:P.underlying t=some (.slice e)) (he:P.elem t=e) (hs:(P.info? e).map (·.size)=some s) (A:Option Addr) (n c m r:Nat) (hm:m≤n) (hr:n-m=r) (k:IntKind) (x:Int) (hx:x=m) (w:World) :
 (Instr.slice t (.slice A n c) (some (.int k x)) none none).run P w=.ok (.slice (cutA s A m c) r (c-m)) w:=by
 subst hx;subst hr;rw [run_slice_l (P:=P) w t A n c (by rw [he];exact ht) k m (by omega) (by omega),he]
 cases hi:P.info? e with
 | none=>rw [hi] at hs;cases hs
 | some i =>
  rw [hi] at hs;simp at hs;simp [sizeOf,typeInfo,hi,Result.andThen,hs,sliced,cutA]
theorem RdK.take {k:IntKind}{w:World}{A:Option Addr}{n m:Nat}{l:List Int}(h:RdK k w A n l)(hm:m≤n):RdK k w A m (l.take m) :=
 ⟨by rw [List.length_take,h.1];omega,fun i x hx=>h.2 i x (by rw [List.getElem?_take] at hx;split at hx;exact hx;cases hx)⟩
theorem Blk.setI {w:World}{g i:Nat}{t:TypeId}{l l':List Int}{x:Int} (h:Blk w g t (Qcf l)) (e:l.set i x=l'):Blk (w.setCell ⟨g,i,none⟩ (.int .i64 x)) g t (Qcf l'):=by
 have:=h.set_ i (.int .i64 x)
 rwa [ints_set,e] at this
theorem Blk.setB {w:World}{g i:Nat}{t:TypeId}{l l':List Bool}{x:Bool} (h:Blk w g t (Qdh l)) (e:l.set i x=l'):Blk (w.setCell ⟨g,i,none⟩ (.bool x)) g t (Qdh l'):=by
 have:=h.set_ i (.bool x)
 rwa [Qud,e] at this
theorem Qah {P:Program}{c:Code}{Q:Exit→Act→World→Prop}{a:Act}{w:World}(h:∀ W,W=w→c.wp P Q a W):c.wp P Q a w:=h w rfl
theorem Bel.setCell_ {w p:World}{b o:Nat}{u:Value}(h:Below w.heap.size w p)(hp:w.heap.size≤b):Below w.heap.size w (p.setCell ⟨b,o,none⟩ u):=Below.setCell h hp u
theorem Blk.far_ {w:World}{g:Nat}{t:TypeId}{cs:Array Value}{b o:Nat}(h:Blk w g t cs)(hp:g≠b)(u:Value):Blk (w.setCell ⟨b,o,none⟩ u) g t cs:=h.far hp u
theorem add_mk (b o j:Nat):(⟨b,o,none⟩:Addr).add j=⟨b,o+j,none⟩:=by
 cases j <;> simp [Addr.add]
def Rds (w:World)(s:Nat)(A:Option Addr)(m:Nat)(xs:List Value):Prop :=
 xs.length=m*s∧∀ j u,xs[j]?=some u→∃ b o,A=some ⟨b,o,none⟩∧w.cell? ⟨b,o+j,none⟩=some u
theorem Rds.below {w w':World}{s m:Nat}{A:Option Addr}{xs:List Value}(h:Rds w s A m xs)(hb:Below w.heap.size w w'):Rds w' s A m xs :=
 ⟨h.1,fun i x hx=>by obtain ⟨b,o,e,hc⟩:=h.2 i x hx;exact ⟨b,o,e,Zc hb (Nat.le_refl _) hc⟩⟩
theorem Blk.rds {w:World}{g s m:Nat}{t:TypeId}{cs:Array Value}(h:Blk w g t cs)(hl:cs.size=m*s):Rds w s (some ⟨g,0,none⟩) m cs.toList :=
 ⟨by simpa using hl,fun j u hu=>⟨g,0,rfl,by rw [Nat.zero_add,h.cell];simpa using hu⟩⟩
theorem RdK.rds {k:IntKind}{w:World}{n:Nat}{A:Option Addr}{l:List Int}(h:RdK k w A n l):Rds w 1 A n (l.map (Value.int k)) :=
 ⟨by simp [h.1],fun j u hu=>by
  rw [List.getElem?_map] at hu
  cases hx:l[j]? with
  | none=>rw [hx] at hu;cases hu
  | some x=>rw [hx] at hu;cases hu;exact h.2 j x hx⟩
def Qem:List (Int×Int)→List Value
 | []=>[]
 | p::t=>.int .i64 p.1::.int .i64 p.2::Qem t
theorem Qle:∀ l:List (Int×Int),(Qem l).length=l.length*2
 | []=>rfl
 | _::t=>by simp [Qem,Qle t];omega
theorem Qlf:∀ l m:List (Int×Int),Qem (l ++m)=Qem l ++Qem m
 | [],_=>rfl
 | p::t,m=>by simp [Qem,Qlf t m]
theorem Qkk:∀ {l:List (Int×Int)} {i:Nat} {p:Int×Int},l[i]?=some p→(Qem l)[i*2]?=some (.int .i64 p.1)∧(Qem l)[i*2+1]?=some (.int .i64 p.2)
 | [],i,p,h=>by simp at h
 | q::t,0,p,h=>by simp at h;subst h;simp [Qem]
 | q::t,i+1,p,h=>by
  have:=Qkk (l:=t) (i:=i) (p:=p) (by simpa using h);rw [show (i+1)*2=i*2+1+1 by omega]
  simpa [Qem] using this
theorem Rds.rdP {w:World}{n:Nat}{A:Option Addr} {l:List (Int×Int)} (h:Rds w 2 A n (Qem l)):RdP w A n l :=
 ⟨by have:=h.1;rw [Qle] at this;omega,fun i p hp=>by
  obtain ⟨h1,h2⟩:=Qkk hp;obtain ⟨b,o,e,c1⟩:=h.2 _ _ h1;obtain ⟨b',o',e',c2⟩:=h.2 _ _ h2;rw [e] at e';cases e'
  exact ⟨b,o,e,c1,by rw [Nat.add_assoc];exact c2⟩⟩
theorem Rds.rdK {k:IntKind}{w:World}{n:Nat}{A:Option Addr}{l:List Int} (h:Rds w 1 A n (l.map (Value.int k))):RdK k w A n l :=
 ⟨by have:=h.1;simpa using this,fun i x hx=>h.2 i _ (by rw [List.getElem?_map,hx];rfl)⟩
theorem ints_one (k:IntKind)(l:List Int):∀ u∈l.map (Value.int k),u.oneCell'=true:=by
 intro u hu;obtain ⟨x,_,rfl⟩:=List.mem_map.1 hu;rfl
def Qad (l:List Int):List Value:=l.map (Value.int .i64)
theorem Qbz (l m:List Int):Qad (l ++m)=Qad l ++Qad m:=by simp [Qad]
theorem Rds.rdI {w:World}{n:Nat}{A:Option Addr}{l:List Int} (h:Rds w 1 A n (Qad l)):RdI w A n l:=Rds.rdK h
theorem RdK.rdsI {w:World}{n:Nat}{A:Option Addr}{l:List Int}(h:RdI w A n l):Rds w 1 A n (Qad l):=RdK.rds h
theorem Qak (l:List Int):∀ u∈Qad l,u.oneCell'=true:=ints_one .i64 l
def Qab (A:Option Addr):Option Nat:=A.map (·.block)
def Own (w:World)(B:Nat)(e:TypeId)(s:Nat)(A:Option Addr)(n c:Nat)(xs:List Value):Prop:=w.ownsRow B e s (.slice A n c) n xs
section
variable {w w':World} {B s n c:Nat} {e:TypeId} {A:Option Addr} {xs:List Value}
theorem Own.nil (w:World)(B s:Nat)(e:TypeId):Own w B e s none 0 0 []:=World.ownsRow_nil w B e s
theorem Own.lit (w:World)(cs:Array Value)(n:Nat)(hb:B≤w.heap.size)(hm:n≤9223372036854775807)(hs:cs.size=n*s):Own (w.alloc (.cells cs e)) B e s (some ⟨w.heap.size,0,none⟩) n n cs.toList :=
 World.ownsRow_lit w cs n hb (by unfold maxLen;omega) hs
theorem Own.drewN (h:Own w B e s A n c xs)(k:Nat):Own (w.drewN k) B e s A n c xs:=h
theorem Own.drew (h:Own w B e s A n c xs):Own w.drew B e s A n c xs:=h
theorem Own.alloc (h:Own w B e s A n c xs)(o:Obj):Own (w.alloc o) B e s A n c xs:=World.ownsRow.alloc h o
theorem Own.lt (h:Own w B e s A n c xs):∀ k,Qab A=some k→B≤k∧k<w.heap.size:=by
 intro k hk;have:=World.ownsRow.lt h k
 cases A with
 | none=>cases hk
 | some a=>exact this hk
theorem Own.below (h:Own w B e s A n c xs)(hb:Below w.heap.size w w'):Own w' B e s A n c xs:=by
 refine World.ownsRow.kept (row:=none) h ⟨hb.os,hb.tape,hb.output,hb.size,fun k hk _=>hb.block k hk⟩ ?_
 cases A with
 | none=>exact .inl rfl
 | some a=>exact .inr (by simp [Value.ownBlock])
theorem Own.far (h:Own w B e s A n c xs){row:Option Nat}(hg:w.grownBy w' row)(hne:Qab A=none∨Qab A≠row):Own w' B e s A n c xs:=by
 refine World.ownsRow.kept h hg ?_
 cases A with
 | none=>exact .inl rfl
 | some a=>rcases hne with h | h;cases h;exact .inr h
theorem Own.rds (h:Own w B e s A n c xs):Rds w s A n xs:=by
 refine ⟨h.1,fun j u hu=>?_⟩;have hc:=h
 rcases h.2 with ⟨h',h0⟩|⟨g,cap,cur,h',_,_⟩
 · have:=h.1
   rw [h0,Nat.zero_mul] at this;rw [List.eq_nil_of_length_eq_zero this] at hu
   cases hu
 · cases h'
   have:=World.ownsRow.cells hc (g:=g) rfl j u hu;rw [add_mk] at this;exact ⟨g,0,rfl,this⟩
theorem Own.shape {v:Value}(h:w.ownsRow B e s v n xs):∃ A c,v=.slice A n c:=by
 rcases h.2 with ⟨rfl,rfl⟩|⟨g,cap,cur,rfl,_⟩
 · exact ⟨_,_,rfl⟩
 · exact ⟨_,_,rfl⟩
theorem Own.cap (h:Own w B e s A n c xs):n≤c:=by
 rcases h.2 with ⟨h',h0⟩|⟨g,cap,cur,h1,_,_,h3,_⟩
 · cases h';omega
 · cases h1;exact h3
theorem Own.mono (h:Own w B e s A n c xs){B':Nat}(hB:B'≤B):Own w B' e s A n c xs:=by
 refine ⟨h.1,?_⟩
 rcases h.2 with h'|⟨g,cap,cur,h1,h2,h3⟩
 · exact .inl h'
 · exact .inr ⟨g,cap,cur,h1,by omega,h3⟩
end
section
variable {P:Program}
theorem run_app (w:World)(t ty e:TypeId)(z:Value)(s by_:Nat) (hinfo:(P.info? e).map (fun i=>(i.zero,i.size,i.bytes))=some (some z,s,by_)) (ht:P.underlying t=some (.slice e)) (hzs:z.cells.size=s) (hs0:0<s)
 {B n c m c2:Nat} {A X:Option Addr} {xs news:List Value} (hown:Own w B e s A n c xs) (hr:Rds w s X m news) (h1:∀ u∈news,u.oneCell'=true)
 (hn:(n+m)*by_≤140737488355328) (hnm:n+m≤9223372036854775807) (hB:B≤w.heap.size) :
 ∃ A' c' w',(Builtin.append_ #[t,t] ty #[.slice A n c,.slice X m c2]).run P w=.ok (.slice A' (n+m) c') w'∧Own w' B e s A' (n+m) c' (xs ++news)∧w.grownBy w' (Qab A)∧(Qab A'=Qab A∨Qab A'=some w.heap.size):=by
 obtain ⟨i,hi,hz,hs,hb⟩:=info_parts hinfo;have hob:∀ (Y:Option Addr) (k d:Nat),(Value.slice Y k d).ownBlock=Qab Y:=fun Y k d=>by cases Y <;> rfl
 cases hm:news with
 | nil =>
  have hm0:m=0:=by
   have:=hr.1;rw [hm] at this
   rcases Nat.eq_zero_or_pos m with h0|h0
   · exact h0
   · have:0<m*s:=Nat.mul_pos h0 hs0
     simp at *;omega
  subst hm0
  cases X with
  | none =>
   refine ⟨A,c,w,?_,by simpa using hown,World.grownBy.refl w _,.inl rfl⟩
   rcases hown.2 with ⟨h',h0⟩|⟨g,cap,cur,h',_,_,hnc,_⟩
   · cases h'
     simp [Builtin.append_,run_underlying ht,sizeOf,typeInfo,hi,Builtin.lenOf,Builtin.firstCells]
   · cases h'
     simp [Builtin.append_,run_underlying ht,sizeOf,typeInfo,hi,Builtin.lenOf,Builtin.firstCells,hnc,storeCells]
  | some ad =>
   obtain ⟨v',w',hrun,h2,h3,_,h5⟩:=run_append_own_at (P:=P) w B t ty e i z s by_ ht hi hz hs hb hzs hs0 _ n xs hown ad 0 c2 [] (by simp) (fun j u hu=>by cases hu) (fun u hu=>by cases hu) (by unfold maxLen;omega) hn hB
   obtain ⟨A',c',rfl⟩:=Own.shape h2;rw [hob,hob] at h5;rw [hob] at h3;exact ⟨A',c',w',hrun,h2,h3,h5⟩
 | cons u0 tl =>
  obtain ⟨b,o,rfl,_⟩:=hr.2 0 u0 (by rw [hm];rfl);rw [←hm]
  obtain ⟨v',w',hrun,h2,h3,_,h5⟩:=run_append_own_at (P:=P) w B t ty e i z s by_ ht hi hz hs hb hzs hs0 _ n xs hown ⟨b,o,none⟩ m c2 news hr.1
   (fun j u hu=>by obtain ⟨b',o',e',hc⟩:=hr.2 j u hu;cases e';rw [add_mk];exact hc) h1 (by unfold maxLen;omega) hn hB
  obtain ⟨A',c',rfl⟩:=Own.shape h2;rw [hob,hob] at h5;rw [hob] at h3;exact ⟨A',c',w',hrun,h2,h3,h5⟩
theorem wp_app {w:World}{o:Oper}{a:Act}{K:Act→World→Prop}{Q:Exit→Act→World→Prop}(s x:Operand)(t:TypeId)
 (ho:o.op=.call { callee:=.builtin .append,args:=#[s,x],argTypes:=#[t,t] })
 (e:TypeId) (z:Value) (sz by_:Nat) (hinfo:(P.info? e).map (fun i=>(i.zero,i.size,i.bytes))=some (some z,sz,by_)) (ht:P.underlying t=some (.slice e)) (hzs:z.cells.size=sz) (hs0:0<sz)
 {B n c m c2:Nat} {A X:Option Addr} {xs news:List Value} (hs:a.eval s=.slice A n c) (hx:a.eval x=.slice X m c2)
 (hown:Own w B e sz A n c xs) (hr:Rds w sz X m news) (h1:∀ u∈news,u.oneCell'=true) (hn:(n+m)*by_≤140737488355328) (hnm:n+m≤9223372036854775807) (hB:B≤w.heap.size)
 (h:∀ A' c' w',Own w' B e sz A' (n+m) c' (xs ++news)→w.grownBy w' (Qab A)→(Qab A'=Qab A∨Qab A'=some w.heap.size)→K (a.put o.dst (.slice A' (n+m) c')) w'):o.wp P a w K Q:=by
 obtain ⟨A',c',w',hrun,h2,h3,h4⟩:=run_app (P:=P) w t o.type e z sz by_ hinfo ht hzs hs0 (c2:=c2) hown hr h1 hn hnm hB;unfold Oper.wp execOp;simp only [ho,resolve,invoke,builtin,Sem.run_bind,Sem.run_pure,Result.andThen_ok,List.map_toArray,List.map_cons,List.map_nil,hs,hx,hrun];exact h A' c' w' h2 h3 h4
theorem Qat {w:World}{ops:Array Oper}{rest:List Oper}{o:Oper}{a:Act}{Q:Exit→Act→World→Prop}(hgd:o.guard=none)(s x:Operand)(t:TypeId)
 (ho:o.op=.call { callee:=.builtin .append,args:=#[s,x],argTypes:=#[t,t] })
 (e:TypeId) (z:Value) (sz by_:Nat) (hinfo:(P.info? e).map (fun i=>(i.zero,i.size,i.bytes))=some (some z,sz,by_)) (ht:P.underlying t=some (.slice e)) (hzs:z.cells.size=sz) (hs0:0<sz)
 {B n c m c2:Nat} {A X:Option Addr} {xs news:List Value} (hs:a.eval s=.slice A n c) (hx:a.eval x=.slice X m c2)
 (hown:Own w B e sz A n c xs) (hr:Rds w sz X m news) (h1:∀ u∈news,u.oneCell'=true) (hn:(n+m)*by_≤140737488355328) (hnm:n+m≤9223372036854775807) (hB:B≤w.heap.size)
 (h:∀ A' c' w',Own w' B e sz A' (n+m) c' (xs ++news)→w.grownBy w' (Qab A)→(Qab A'=Qab A∨Qab A'=some w.heap.size)→wpList P ops Q rest (a.put o.dst (.slice A' (n+m) c')) w'):wpList P ops Q (o::rest) a w :=
 wpList_plain hgd fun _ hK=>wp_app s x t ho e z sz by_ hinfo ht hzs hs0 hs hx hown hr h1 hn hnm hB fun A' c' w' h2 h3 h4=>hK _ _ (h A' c' w' h2 h3 h4)
theorem step_app {w:World}{ops:Array Oper}{o:Oper}{a:Act}{K:Act→World→Prop}{Q:Exit→Act→World→Prop}{E:Prop}(hgd:o.guard=none)(s x:Operand)(t:TypeId)
 (ho:o.op=.call { callee:=.builtin .append,args:=#[s,x],argTypes:=#[t,t] })
 (e:TypeId) (z:Value) (sz by_:Nat) (hinfo:(P.info? e).map (fun i=>(i.zero,i.size,i.bytes))=some (some z,sz,by_)) (ht:P.underlying t=some (.slice e)) (hzs:z.cells.size=sz) (hs0:0<sz)
 {B n c m c2:Nat} {A X:Option Addr} {xs news:List Value} (hs:a.eval s=.slice A n c) (hx:a.eval x=.slice X m c2)
 (hown:Own w B e sz A n c xs) (hr:Rds w sz X m news) (h1:∀ u∈news,u.oneCell'=true) (hn:(n+m)*by_≤140737488355328) (hnm:n+m≤9223372036854775807) (hB:B≤w.heap.size)
 (h:∀ A' c' w',Own w' B e sz A' (n+m) c' (xs ++news)→w.grownBy w' (Qab A)→(Qab A'=Qab A∨Qab A'=some w.heap.size)→K (a.put o.dst (.slice A' (n+m) c')) w') :
 if Region.wanted o (yielded ops a.tmps)=true then Oper.wp P o a w K Q else E:=by
 have hw:Region.wanted o (yielded ops a.tmps)=true:=by simp [Region.wanted,hgd]
 rw [if_pos hw];exact wp_app s x t ho e z sz by_ hinfo ht hzs hs0 hs hx hown hr h1 hn hnm hB h
end
def Dj (A A':Option Addr):Prop:=Qab A=none∨Qab A'=none∨Qab A≠Qab A'
theorem Dj.symm {A A':Option Addr}(h:Dj A A'):Dj A' A:=by
 rcases h with h|h|h
 · exact .inr (.inl h)
 · exact .inl h
 · exact .inr (.inr (Ne.symm h))
theorem Dj.far {A A':Option Addr}(h:Dj A A'):Qab A'=none∨Qab A'≠Qab A:=by
 rcases h with h|h|h
 · cases hA:Qab A' with
   | none=>exact .inl rfl
   | some g=>right;rw [h];exact fun e=>by cases e
 · exact .inl h
 · exact .inr (Ne.symm h)
theorem Dj.next {w:World}{B s n c:Nat}{e:TypeId}{A A' A2:Option Addr}{xs:List Value}(h:Dj A A')(ho:Own w B e s A' n c xs)(hat:Qab A2=Qab A∨Qab A2=some w.heap.size):Dj A2 A':=by
 rcases hat with hat|hat
 · unfold Dj;rw [hat];exact h
 · cases hA:Qab A' with
   | none=>exact .inr (.inl hA)
   | some g =>
    have:=(Own.lt ho g hA).2;exact .inr (.inr (by rw [hat,hA];intro e;injection e;omega))
theorem Bel.grownOwn {B:Nat}{a w w':World}{e:TypeId}{s n c:Nat}{A:Option Addr}{xs:List Value}(h:Below B a w) (hg:w.grownBy w' (Qab A)) (hown:Own w B e s A n c xs) (hB:B≤w.heap.size):Below B a w' :=
 h.grown hg hB fun k hk=>(hown.lt k hk).1
theorem Qbs {k:IntKind}{a b:Int}(h:a=b):Ending.returned (.int k a)=.returned (.int k b):=by rw [h]
theorem Qbb {a b:Bool}(h:a=b):Ending.returned (.bool a)=.returned (.bool b):=by rw [h]
theorem Below.frozenOf {B:Nat}{w w':World}(h:Below B w w'){a:Addr}(hB:a.block<B):w'.frozen? a=w.frozen? a:=by
 unfold World.frozen?;rw [h.block _ hB]
theorem Qac {P:Program}{f:Nat}{args:Array Value}{w:World}{Q:Ending→World→Prop}(h:∀ W,W=w→Calls P f args W Q):Calls P f args w Q:=h w rfl
theorem Qiw {P:Program}{ops:Array Oper}{Q:Exit→Act→World→Prop}{md:Region.Mode}{S S':World→Prop}(h:∀ w,S' w→S w) :
 ∀ (fuel:Nat) (listed:Array Bool) (a:Act) (w:World),wpAnyH P md ops Q S' fuel listed a w→wpAnyH P md ops Q S fuel listed a w
 | 0,_,_,_,g=>g
 | fuel+1,_,_,_,g=>⟨g.1,fun i hi=>wpOp_mono (fun a' w' h'=>⟨h _ h'.1,Qiw h fuel _ a' w' h'.2⟩) (g.2 i hi)⟩
theorem take_ {P:Program}{ops:Array Oper}{Q:Exit→Act→World→Prop}{md:Region.Mode}{S:World→Prop}{i:Nat}{oi:Oper}{d:Option Tmp}{v:Value}{fuel:Nat}{listed:Array Bool}{a:Act}{w:World} (hi:ops[i]?=some oi) (hd:oi.dst=d)
 (hs:Region.noSelect ops=true) (hf:Region.free md ops listed i=true) (hr:(Region.ready md ops listed).contains i=true)
 (hQ:∀ c a w,Q (.panic c) (a.put oi.dst v) w→Q (.panic c) a w) (hw:Region.wanted oi (yielded ops a.tmps)=true) (hy:∀ w,S w→(execOp a.eval oi).run P w=.ok (.value v) w) (hS:S w)
 (h:wpAnyH P md ops Q S fuel (listed.setIfInBounds i true) (a.put d v) w):wpAnyH P md ops Q S (fuel+1) listed a w:=by
 subst hd;exact wpAnyH_take hi hs hf hr hQ (Or.inl ⟨hw,hy⟩) hS h
theorem takeU_ {P:Program}{ops:Array Oper}{Q:Exit→Act→World→Prop}{md:Region.Mode}{S:World→Prop}{i:Nat}{oi:Oper}{d:Option Tmp}{fuel:Nat}{listed:Array Bool}{a:Act}{w:World} (hi:ops[i]?=some oi) (hd:oi.dst=d)
 (hs:Region.noSelect ops=true) (hf:Region.free md ops listed i=true) (hr:(Region.ready md ops listed).contains i=true)
 (hQ:∀ c a w,Q (.panic c) (a.put oi.dst undef) w→Q (.panic c) a w) (hw:Region.wanted oi (yielded ops a.tmps)=false) (hS:S w)
 (h:wpAnyH P md ops Q S fuel (listed.setIfInBounds i true) (a.put d undef) w):wpAnyH P md ops Q S (fuel+1) listed a w:=by
 subst hd;exact wpAnyH_take hi hs hf hr hQ (Or.inr ⟨hw,rfl⟩) hS h
theorem Qai {P:Program}{w:World}{ops:Array Oper}{o:Oper}{a:Act}{K:Act→World→Prop}{Q:Exit→Act→World→Prop}{E:Prop}(d:Option Tmp)(hd:o.dst=d)(hgd:o.guard=none)(s x:Operand)(t:TypeId)
 (ho:o.op=.call { callee:=.builtin .append,args:=#[s,x],argTypes:=#[t,t] })
 (e:TypeId) (z:Value) (sz by_:Nat) (hinfo:(P.info? e).map (fun i=>(i.zero,i.size,i.bytes))=some (some z,sz,by_)) (ht:P.underlying t=some (.slice e)) (hzs:z.cells.size=sz) (hs0:0<sz)
 {B n c m c2:Nat} {A X:Option Addr} {xs news:List Value} (hs:a.eval s=.slice A n c) (hx:a.eval x=.slice X m c2)
 (hown:Own w B e sz A n c xs) (hr:Rds w sz X m news) (h1:∀ u∈news,u.oneCell'=true) (hn:(n+m)*by_≤140737488355328) (hnm:n+m≤9223372036854775807) (hB:B≤w.heap.size)
 (h:∀ A' c' w',Own w' B e sz A' (n+m) c' (xs ++news)→w.grownBy w' (Qab A)→(Qab A'=Qab A∨Qab A'=some w.heap.size)→K (a.put d (.slice A' (n+m) c')) w') :
 if Region.wanted o (yielded ops a.tmps)=true then Oper.wp P o a w K Q else E:=by
 subst hd;exact step_app hgd s x t ho e z sz by_ hinfo ht hzs hs0 hs hx hown hr h1 hn hnm hB h
theorem Qfl {P:Program}{f:FuncId}{args:Array Value}{w:World}{n:Nat}{v:Value}
 (h:Calls P f args (w.drewN n) fun e w'=>e=.returned v∧w.drewN n=w'):Calls P f args (w.drewN n) fun e w'=>e=.returned v∧∃ m,w'=w.drewN m :=
 h.mono fun _ _ ⟨he,hm⟩=>⟨he,n,hm.symm⟩
theorem Qow {P:Program}{f:FuncId}{args:Array Value}{w:World}{n:Nat}{v:Value}
 (h:Calls P f args (w.drewN n) fun e w'=>e=.returned v∧∃ q,w'=(w.drewN n).drewN q):Calls P f args (w.drewN n) fun e w'=>e=.returned v∧∃ m,w'=w.drewN m :=
 h.mono fun _ _ ⟨he,q,hq⟩=>⟨he,n+q,by rw [hq];simp⟩
theorem Qay:(Tryz.prog.info? 3).map (fun i=>(i.zero,i.size,i.bytes))=some (some (.int .i64 0),1,8):=by kernel_rfl
def RdT (w:World)(A:Option Addr)(n:Nat) (ls:List (List Int)):Prop :=
 ls.length=n∧∀ i l,ls[i]?=some l→∃ b o A' n' c',A=some ⟨b,o,none⟩∧w.cell? ⟨b,o+i,none⟩=some (.slice A' n' c')∧RdI w A' n' l∧n'≤c'∧c'≤9223372036854775807
theorem RdT.at_ {w:World}{A:Option Addr}{n i:Nat} {ls:List (List Int)} (h:RdT w A n ls) (hi:i<n) :
 ∃ b o A' n' c' l,A=some ⟨b,o,none⟩∧ls[i]?=some l∧w.cell? ⟨b,o+i,none⟩=some (.slice A' n' c')∧RdI w A' n' l∧n'≤c'∧c'≤9223372036854775807:=by
 have hl:i<ls.length:=by rw [h.1];exact hi
 obtain ⟨b,o,A',n',c',h1,h2,h3,h4,h5⟩:=h.2 i _ (List.getElem?_eq_getElem hl);exact ⟨b,o,A',n',c',_,h1,List.getElem?_eq_getElem hl,h2,h3,h4,h5⟩
theorem RdT.below {w w':World}{A:Option Addr}{n:Nat} {ls:List (List Int)} (h:RdT w A n ls) (hb:Below w.heap.size w w'):RdT w' A n ls :=
 ⟨h.1,fun i l hl=>by
  obtain ⟨b,o,A',n',c',h1,h2,h3,h4,h5⟩:=h.2 i l hl;exact ⟨b,o,A',n',c',h1,Zc hb (Nat.le_refl _) h2,h3.below hb,h4,h5⟩⟩
theorem Blk.two {w:World}{g:Nat}{t:TypeId}{a b:Value} (h:Blk w g t #[a,b]) :
 w.cell? ⟨g,0,none⟩=some a∧w.cell? ⟨g,1,none⟩=some b∧w.frozen? ⟨g,0,none⟩=false∧w.frozen? ⟨g,1,none⟩=false :=
 ⟨by rw [h.cell];rfl,by rw [h.cell];rfl,h.frozen 0,h.frozen 1⟩
theorem Blk.grown {w w':World}{g:Nat}{t:TypeId}{cs:Array Value}{r:Option Nat}(h:Blk w g t cs)(hg:w.grownBy w' r)(hne:r≠some g):Blk w' g t cs :=
 (hg.block g h.lt (fun e=>hne e.symm)).trans h
theorem Own.ne {w:World}{B s n c g:Nat}{e:TypeId}{A:Option Addr}{xs:List Value}(h:Own w B e s A n c xs)(hg:g<B):Qab A≠some g:=fun e'=>by
 have:=(h.lt g e').1;omega
theorem RdK.grown {k:IntKind}{w w':World}{A:Option Addr}{n g:Nat}{l:List Int}(h:RdK k w A n l) (hg:w.grownBy w' (some g)) (hne:Qab A≠some g):RdK k w' A n l :=
 ⟨h.1,fun i x hx=>by
  obtain ⟨b,o,e,hc⟩:=h.2 i x hx;subst e;refine ⟨b,o,rfl,?_⟩;have hb:=Qag hc;have hbne:(some b:Option Nat)≠some g:=hne;have:=hg.block b hb (fun e=>hbne e);unfold World.cell? at hc ⊢;rw [this];exact hc⟩
theorem Qaa (W:World)(g i:Nat)(v:Value):W.grownBy (W.setCell ⟨g,i,none⟩ v) (some g) where
 os:=rfl
 tape:=rfl
 output:=rfl
 size:=by simp [World.setCell]
 block:=fun k hk hne=>Below.heap_setCell W ⟨g,i,none⟩ v k (fun e=>hne (by rw [e]))
theorem Own.capMax {w:World}{B s n c:Nat}{e:TypeId}{A:Option Addr}{xs:List Value}(h:Own w B e s A n c xs):c≤9223372036854775807:=by
 rcases h.2 with ⟨h',h0⟩|⟨g,cap,cur,h1,_,_,_,h4,_⟩
 · cases h';omega
 · cases h1;unfold maxLen at h4;omega
theorem Own.block {w:World}{B s n c:Nat}{e:TypeId}{A:Option Addr}{xs:List Value}(h:Own w B e s A n c xs)(hn:0<n) :
 ∃ g cur,A=some ⟨g,0,none⟩∧B≤g∧Blk w g e cur∧n≤c∧cur.size=c*s∧∀ (j:Nat) (u:Value),xs[j]?=some u→cur[j]?=some u:=by
 rcases h.2 with ⟨_,h0⟩|⟨g,cap,cur,h1,h2,h3,h4,_,h6,h7⟩
 · omega
 · cases h1
   refine ⟨g,cur,rfl,h2,h3,h4,h6,fun j u hu=>?_⟩;rw [←h7,List.getElem?_take] at hu
   split at hu
   · simpa using hu
   · cases hu
theorem RdK.grownN {k:IntKind}{w w':World}{A:Option Addr}{n:Nat}{r:Option Nat}{l:List Int}(h:RdK k w A n l)(hg:w.grownBy w' r)(hne:∀ g,Qab A=some g→r≠some g):RdK k w' A n l :=
 ⟨h.1,fun i x hx=>by
  obtain ⟨b,o,e,hc⟩:=h.2 i x hx;subst e;refine ⟨b,o,rfl,?_⟩;have hb:=Qag hc;have:=hg.block b hb (fun e=>hne b rfl e.symm);unfold World.cell? at hc ⊢;rw [this];exact hc⟩
theorem Qcr (R:Option Addr)(m d:Nat):∀ u∈[Value.slice R m d],u.oneCell'=true:=by
 intro u hu;simp at hu;rw [hu]
 rfl
theorem RdK.far {k:IntKind}{w:World}{A:Option Addr}{n g i:Nat}{l:List Int}(h:RdK k w A n l)(v:Value)(hne:Qab A≠some g):RdK k (w.setCell ⟨g,i,none⟩ v) A n l :=
 h.grown (Qaa w g i v) hne
theorem Qdn (n:Nat)(hn:n≤1000000000)(W:World):(Instr.makeSlice 93 (.int .i64 (n:Int)) (.int .i64 (n:Int))).run prog W=.ok (.slice (some ⟨W.heap.size,0,none⟩) n n) (W.alloc (.cells (Qba (.int .i64 0) n) 3)) :=
 Qdt (P:=prog) 93 3 (.int .i64 0) 8 Qay underlying93 rfl n (by omega) (by omega) .i64 .i64 W
theorem lit0 {W:World}{B:Nat}{t:TypeId}(hB:B≤W.heap.size):Own (W.alloc (.cells #[] t)) B t 1 (some ⟨W.heap.size,0,none⟩) 0 0 []:=Own.lit W #[] 0 hB (by omega) rfl
/-! Whichever way the next operations come up. -/
section
variable {P:Program} {ops:Array Oper} {Q:Exit→Act→World→Prop} {md:Region.Mode} {S:World→Prop}
def wpC (P:Program)(md:Region.Mode)(ops:Array Oper)(Q:Exit→Act→World→Prop)(S:World→Prop)(L:Array Bool)(C:Act→World→Prop):Nat→Array Bool→Act→World→Prop
 | 0,listed,a,w=>listed=L∧C a w
 | n+1,listed,a,w=>Region.ready md ops listed≠[]∧∀ i∈Region.ready md ops listed,wpOp P ops Q i (fun a' w'=>S w'∧wpC P md ops Q S L C n (listed.setIfInBounds i true) a' w') a w
theorem Qwf {L:Array Bool}{C:Act→World→Prop}{f0:Nat}(h:∀ a w,C a w→wpAnyH P md ops Q S f0 L a w):∀ (n:Nat) (listed:Array Bool) (a:Act) (w:World),wpC P md ops Q S L C n listed a w→wpAnyH P md ops Q S (f0+n) listed a w
 | 0,_,_,_,⟨e,hc⟩=>by subst e;exact h _ _ hc
 | n+1,listed,a,w,⟨hne,hall⟩=>wpAnyH_all (fuel:=f0+n) rfl hne (fun i hi=>wpOp_mono (fun a' w' h'=>⟨h'.1,Qwf h n _ a' w' h'.2⟩) (hall i hi))
def Qgn (P:Program)(md:Region.Mode)(ops:Array Oper)(Q:Exit→Act→World→Prop)(S:World→Prop)(L:Array Bool)(C:Act→World→Prop)(n:Nat)(listed:Array Bool)(a:Act)(w:World)(rs:List Nat):Prop :=
 ∀ i∈rs,wpOp P ops Q i (fun a' w'=>S w'∧wpC P md ops Q S L C n (listed.setIfInBounds i true) a' w') a w
theorem Qgn.nil {L:Array Bool}{C:Act→World→Prop}{n:Nat}{listed:Array Bool}{a:Act}{w:World}:Qgn P md ops Q S L C n listed a w []:=fun _ h=>by cases h
theorem Qgn.cons {L:Array Bool}{C:Act→World→Prop}{n:Nat}{listed:Array Bool}{a:Act}{w:World}{i:Nat}{o:Oper}{rs:List Nat} (ho:ops[i]?=some o)
 (h:∀ K':Act→World→Prop,Shut (∀ a w,S w→(S w→wpC P md ops Q S L C n (listed.setIfInBounds i true) a w)→K' a w)→if Region.wanted o (yielded ops a.tmps)=true then Oper.wp P o a w K' Q else K' (a.put o.dst undef) w)
 (hs:Qgn P md ops Q S L C n listed a w rs):Qgn P md ops Q S L C n listed a w (i::rs):=fun j hj=>by
 rcases List.mem_cons.1 hj with rfl|hj
 · exact wpOp_step ho (fun K' hK=>h K' (fun a w hS hW=>hK a w ⟨hS,hW hS⟩))
 · exact hs j hj
theorem Qca {L:Array Bool}{C:Act→World→Prop}{rs:List Nat}{n:Nat}{listed:Array Bool}{a:Act}{w:World}(hr:Region.ready md ops listed=rs) (hne:rs≠[]) (h:Qgn P md ops Q S L C n listed a w rs):wpC P md ops Q S L C (n+1) listed a w :=
 ⟨hr▸hne,hr▸h⟩
theorem Qnx {G:Value→Value→Value→World→Prop}{L listed:Array Bool}{f0 fuel:Nat}{a:Act}{w:World}(d1 d2 d3:Option Tmp)(hf:fuel=f0+3)
 (hA:∀ C:Act→World→Prop,Shut (∀ v1 v2 v3 w',G v1 v2 v3 w'→C (((a.put d1 v1).put d2 v2).put d3 v3) w')→wpC P md ops Q S L C 3 listed a w)
 (hB:∀ v1 v2 v3 w',G v1 v2 v3 w'→wpAnyH P md ops Q S f0 L (((a.put d1 v1).put d2 v2).put d3 v3) w'):wpAnyH P md ops Q S fuel listed a w:=by
 subst hf;exact Qwf (C:=fun a' w'=>wpAnyH P md ops Q S f0 L a' w') (fun _ _ h=>h) 3 listed a w (hA _ hB)
end
/-! Shorter words (fill.py's TAKES, TAKEU, (by repeat (first | exact Below.refl _ _ | assumption | apply Below.drew | apply Qap | apply Bel.alloc | (refine Bel.setCell_ ?_ ?_; rotate_left; omega) | (refine Zb ?_ (by assumption)))), (by repeat (first | assumption | apply Blk.drewN | apply Blk.drew | apply Blk.alloc | (refine Blk.far_ ?_ ?_ _; rotate_left; omega))), (by repeat (first | assumption | (refine Blk.new' _ _ _ ?_; first | with_unfolding_all rfl | (simp; done)) | apply Blk.drewN | apply Blk.drew | apply Blk.alloc | (refine Blk.far_ ?_ ?_ _; rotate_left; omega)))) -/
theorem tv {p:Prop} (h:p:=by (intro V hSw;(try (have hF:=HSX.out V hSw));(try (cases hSw));(try go_split_ands);go_simp;try with_reducible rfl)):p:=h
section
variable {P:Program} {ops:Array Oper} {Q:Exit→Act→World→Prop} {md:Region.Mode} {S:World→Prop} {oi:Oper} {fuel:Nat} {listed:Array Bool} {a:Act} {w:World}
theorem tk (i d:Nat) (hi:ops[i]?=some oi:=by rfl) (hd:oi.dst=some d:=by rfl) (hs:Region.noSelect ops=true:=by kernel_rfl) (hf:Region.free md ops listed i=true:=by kernel_rfl) (hr:(Region.ready md ops listed).contains i=true:=by kernel_rfl)
 (hQ:∀ c a w v,Q (.panic c) (a.put oi.dst v) w→Q (.panic c) a w:=by exact fun _ _ _ _ h=>h) (hw:Region.wanted oi (yielded ops a.tmps)=true:=by rfl) (hS:S w:=by first|rfl|trivial|assumption)
 (h:∃ v,(∀ w,S w→(execOp a.eval oi).run P w=.ok (.value v) w)∧wpAnyH P md ops Q S fuel (listed.setIfInBounds i true) (a.put (some d) v) w):wpAnyH P md ops Q S (fuel+1) listed a w:=by
 obtain ⟨v,h1,h2⟩:=h;exact take_ (i:=i) (d:=some d) (v:=v) hi hd hs hf hr (fun c a w=>hQ c a w v) hw h1 hS h2
theorem tu (i d:Nat) (hi:ops[i]?=some oi:=by rfl) (hd:oi.dst=some d:=by rfl) (hs:Region.noSelect ops=true:=by kernel_rfl) (hf:Region.free md ops listed i=true:=by kernel_rfl) (hr:(Region.ready md ops listed).contains i=true:=by kernel_rfl)
 (hQ:∀ c a w,Q (.panic c) (a.put oi.dst undef) w→Q (.panic c) a w:=by exact fun _ _ _ h=>h) (hw:Region.wanted oi (yielded ops a.tmps)=false:=by rfl) (hS:S w:=by first|rfl|trivial|assumption)
 (h:wpAnyH P md ops Q S fuel (listed.setIfInBounds i true) (a.put (some d) undef) w):wpAnyH P md ops Q S (fuel+1) listed a w :=
 takeU_ (i:=i) (d:=some d) hi hd hs hf hr hQ hw hS h
end
theorem pE (l:List Value)(ds:List Deferred)(k:Nat)(v:Value):Act.put ⟨l.toArray,ds⟩ (some k) v=⟨(l.set k v).toArray,ds⟩:=by simp [Act.put]
theorem Qae {B:Nat}{w w':World} (h:Below B w w':=by repeat (first|exact Below.refl _ _|assumption|apply Below.drew|apply Qap|apply Bel.alloc|(refine Bel.setCell_ ?_ ?_;rotate_left;omega)|(refine Zb ?_ (by assumption)))):Below B w w':=h
theorem Qck {w:World}{g:Nat}{t:TypeId}{cs:Array Value} (h:Blk w g t cs:=by repeat (first|assumption|apply Blk.drewN|apply Blk.drew|apply Blk.alloc|(refine Blk.far_ ?_ ?_ _;rotate_left;omega))):Blk w g t cs:=h
theorem Qau {w:World}{g:Nat}{t:TypeId}{cs:Array Value} (h:Blk w g t cs:=by repeat (first|assumption|(refine Blk.new' _ _ _ ?_;first|with_unfolding_all rfl|(simp;done))|apply Blk.drewN|apply Blk.drew|apply Blk.alloc|(refine Blk.far_ ?_ ?_ _;rotate_left;omega))):Blk w g t cs:=h
theorem tz {P:Program}{ops:Array Oper}{Q:Exit→Act→World→Prop}{md:Region.Mode}{S:World→Prop}{oi:Oper}{fuel:Nat}{listed:Array Bool}{l l':List Value}{ds:List Deferred}{w:World}{v:Value}(i d:Nat) (h:wpAnyH P md ops Q S fuel (listed.setIfInBounds i true) ⟨l'.toArray,ds⟩ w) (hi:ops[i]?=some oi:=by rfl) (hd:oi.dst=some d:=by rfl) (hs:Region.noSelect ops=true:=by kernel_rfl) (hf:Region.free md ops listed i=true:=by kernel_rfl) (hr:(Region.ready md ops listed).contains i=true:=by kernel_rfl)
    (hQ:∀ c a w v,Q (.panic c) (a.put oi.dst v) w→Q (.panic c) a w:=by exact fun _ _ _ _ h=>h) (hw:Region.wanted oi (yielded ops l.toArray)=true:=by rfl) (hS:S w:=by first|rfl|trivial|assumption) (hl:l.set d v=l':=by simp only [List.set];rfl)
    (hv:∀ w,S w→(execOp (Act.eval ⟨l.toArray,ds⟩) oi).run P w=.ok (.value v) w:=by (intro V hSw;(try (have hF:=HSX.out V hSw));(try (cases hSw));(try go_split_ands);go_simp;try with_reducible rfl)):wpAnyH P md ops Q S (fuel+1) listed ⟨l.toArray,ds⟩ w:=by
  subst hl;exact tk i d hi hd hs hf hr hQ hw hS ⟨v,hv,by rw [pE];exact h⟩
theorem tw {P:Program}{ops:Array Oper}{Q:Exit→Act→World→Prop}{md:Region.Mode}{S:World→Prop}{oi:Oper}{fuel:Nat}{listed:Array Bool}{l l':List Value}{ds:List Deferred}{w:World}(i d:Nat) (h:wpAnyH P md ops Q S fuel (listed.setIfInBounds i true) ⟨l'.toArray,ds⟩ w) (hi:ops[i]?=some oi:=by rfl) (hd:oi.dst=some d:=by rfl) (hs:Region.noSelect ops=true:=by kernel_rfl) (hf:Region.free md ops listed i=true:=by kernel_rfl) (hr:(Region.ready md ops listed).contains i=true:=by kernel_rfl)
    (hQ:∀ c a w,Q (.panic c) (a.put oi.dst undef) w→Q (.panic c) a w:=by exact fun _ _ _ h=>h) (hw:Region.wanted oi (yielded ops l.toArray)=false:=by rfl) (hS:S w:=by first|rfl|trivial|assumption) (hl:l.set d undef=l':=by simp only [List.set];rfl):wpAnyH P md ops Q S (fuel+1) listed ⟨l.toArray,ds⟩ w:=by
  subst hl;exact tu i d hi hd hs hf hr hQ hw hS (by rw [pE];exact h)
theorem Zk {P:Program}{ops:Array Oper}{Q:Exit→Act→World→Prop}{md:Region.Mode}{S:World→Prop}{fuel:Nat}{listed:Array Bool}{a:Act}{w:World}(k:Nat){o:Oper}
    (h:∀ K':Act→World→Prop,Shut (∀ a w,S w→(S w→wpAnyH P md ops Q S fuel (listed.setIfInBounds k true) a w)→K' a w)→if Region.wanted o (yielded ops a.tmps)=true then Oper.wp P o a w K' Q else K' (a.put o.dst undef) w)
    (hr:Region.ready md ops listed=[k]:=by kernel_rfl) (ho:ops[k]?=some o:=by rfl):wpAnyH P md ops Q S (fuel+1) listed a w:=wpAnyH_ready hr (by simp) (AllReadyH.cons ho h AllReadyH.nil)
theorem Zh {p:Prop}(h:p):RowKit.Hid p:=Lib.hid h
theorem Zs {α:Type _}{l:List α}{i:Nat}{a:α} (h:l[i]?=some a):∃ h:i<l.length,l[i]=a:=List.getElem?_eq_some_iff.1 h
theorem Zg {α:Type _}{l:List α}{i:Nat}(h:i<l.length):l[i]?=some l[i]:=List.getElem?_eq_getElem h
theorem Zm {α:Type _}{l:List α}{i:Nat}{a:α} (h:l[i]?=some a):a∈l:=List.mem_of_getElem? h
theorem Zn (n:Nat):n≤n:=Nat.le_refl n
theorem Zr (B:Nat)(w:World):Below B w w:=Below.refl B w
theorem Zq {w:World}{g i:Nat}{t:TypeId}{cs:Array Value}{v:Value}(h:Blk w g t cs) (e:cs[i]?=some v:=by rfl):w.cell? ⟨g,i,none⟩=some v:=(h.cell i).trans e
theorem Zd {P:Program}{ops:Array Oper}{Q:Exit→Act→World→Prop}{md:Region.Mode}{S:World→Prop}{fuel:Nat}{listed:Array Bool}{a:Act}{w:World}(h:Q .normal a w) (hr:Region.ready md ops listed=[]:=by kernel_rfl):wpAnyH P md ops Q S fuel listed a w:=wpAnyH_done hr h _
end Go.Proofs.YthoagdpakddbdaaGreatDoor
