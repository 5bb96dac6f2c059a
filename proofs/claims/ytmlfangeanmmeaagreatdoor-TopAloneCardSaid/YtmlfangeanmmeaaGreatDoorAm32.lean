/-
 What the proof of TopAlone leans on, part 32 of 49: Tb. No statement of its own.
-/
import Derived.Test.YtmlfangeanmmeaaGreatDoorAm8
import Derived.Test.YtmlfangeanmmeaaGreatDoorAm9
import Derived.Test.YtmlfangeanmmeaaGreatDoorAm10
import Derived.Test.YtmlfangeanmmeaaGreatDoorAm15
import Derived.Laws.OwnMore
set_option maxHeartbeats 16000000
set_option maxRecDepth 8000
set_option linter.unusedVariables false
namespace Go.Proofs.YtmlfangeanmmeaaGreatDoor
open Go.RowKit
abbrev stC (th ph att:Int) (a:Acc):Array Value:=#[.int .i64 th,.int .i64 ph,.int .i64 att,.int .i64 a.kind,.int .i64 a.cell,.int .i64 a.index,.int .u64 a.got,.int .u64 a.put,.bool a.done]
abbrev stV (th ph att:Int) (a:Acc):Value:=.agg (stC th ph att a)
abbrev stF (th ph att:Int) (a:Acc) (j:Nat):Value:=(stC th ph att a).toList.getD j undef
def insL (p:List InsR):List Value:=p.flatMap fun i=>i.cells.toList
theorem Zed:∀(p:List InsR) (k:Nat) (i:InsR) (j:Nat) (u:Value),p[k]?=some i->i.cells.toList[j]?=some u->(insL p)[k*5+j]?=some u
 | [],k,i,j,u,h,_=>by cases h
 | i0::p,0,i,j,u,h,h2=>by
  have:i0=i:=by simpa using h
  subst this;have hj:j<5:=(List.getElem?_eq_some_iff.1 h2).1;show (i0.cells.toList++insL p)[0*5+j]?=_;rw[Nat.zero_mul,Nat.zero_add,List.getElem?_append_left hj];exact h2
 | i0::p,k+1,i,j,u,h,h2=>by
  show (i0.cells.toList++insL p)[(k+1)*5+j]?=_;rw[List.getElem?_append_right (by show 5<=_;omega)];rw[show (k+1)*5+j - i0.cells.toList.length=k*5+j by show _ - 5=_;omega];exact Zed p k i j u (by simpa using h) h2
def obL (l:List ObR):List Value:=l.flatMap fun x=>[.int .i64 x.pc,.int .i64 x.kind,.int .u64 x.val]
abbrev Z0a (v:Value) (p:List InsR):Asr:=rowS 28 5 v p.length (insL p)
abbrev obsA (v:Value) (l:List ObR):Asr:=rowS 55 3 v l.length (obL l)
abbrev rowT (e:TypeId) (size:Nat) (v:Value) (n:Nat) (xs:List Value):Asr:=rowS e size v n xs
section
variable {w0 w:World} {R:Asr} {e:TypeId} {size n c:Nat} {xs:List Value} {A:Option Addr}
theorem Hold.rowSBlk (h:Hold w0 w (rowT e size (.slice A n c) n xs*R)) (hs:1<size) (hn:0<n):∃g,A=some ⟨g,0,none⟩/\(∀j u,xs[j]?=some u->w.cell? ⟨g,j,none⟩=some u)/\n<=c:=by
 rcases h.rowS with h|⟨g,cs,hv,hg,hx,rfl,hl⟩
 ·rcases h.2 with⟨hv,h0⟩|⟨g,cap,cur,hv,_,hg,h1,h2,h3,h4⟩
  ·omega
  ·injection hv with hA hn hc
   refine⟨g,hA,fun j u hj=>?_,by omega⟩;rw[Blk.cell hg];have hj2:j<n*size:=by have:=(List.getElem?_eq_some_iff.1 hj).1;rw[h.1] at this;exact this
   rw[<- h4,List.getElem?_take,if_pos hj2] at hj;rw[<- hj];simp
 ·omega
theorem Hold.newRowS (h:Hold w0 w R) {e:TypeId} {size:Nat} {cs:Array Value} (hs:cs.size=size):Hold w0 (w.alloc (.cells cs e)) (rowT e size (.slice (some ⟨w.heap.size,0,none⟩) 1 1) 1 cs.toList*R) :=
 h.new ((Chg.refl _ _).alloc _) ⟨.inl (World.ownsRow_lit w cs 1 (Nat.zero_le _) (by decide) (by omega)),rfl⟩ (by rw[Z0x];simp)
theorem Z3i {P:Program} {ops:Array Oper} {rest:List Oper} {o:Oper} {a:Act} {Q:Exit->Act->World->Prop} (hgd:Region.wanted o (yielded ops a.tmps)=true) (T:TypeId) (x:Operand)
  (ho:o.op = .load T x) (p:Addr) (ds:Array Value) (hx:a.eval x = .pointer (some p)) (hA:∀w,(isAgg T).run P w = .ok true w) (m:Nat) (hs:∀w,(sizeOf T).run P w = .ok m w) (hr:∀j u,ds.toList[j]?=some u->w.cell? (p.add j)=some u) (hn:ds.size=m)
  (K:wpList P ops Q rest (a.put o.dst (.agg ds)) w):wpList P ops Q (o::rest) a w:=by
 refine Z1h hgd fun K' hK'=>?_;subst hn;have hl:(loadCells p ds.toList.length).run P w = .ok ds.toList.toArray w:=run_loadCells_list w _ _ fun j v hj=>hr j v hj;have hl2:(loadCells p ds.size).run P w = .ok ds w:=by simpa using hl
 unfold Oper.wp;simp[execOp,ho,hx,Instr.loadAt,Instr.sureAddr,loadVar,hA,hs,hl2,Result.andThen,Sem.run_bind];exact hK' _ _ K
theorem Hold.codeAt {p:List InsR} {k:Nat} {i:InsR} (h:Hold w0 w (Z0a (.slice A p.length c) p*R)) (hk:p[k]?=some i) :
  ∃g,A=some ⟨g,0,none⟩/\p.length<=c/\∀j u,i.cells.toList[j]?=some u->w.cell? ⟨g,k*5+j,none⟩=some u:=by
 have hl:=(List.getElem?_eq_some_iff.1 hk).1;obtain⟨g,hA,hc,hcap⟩:=Hold.rowSBlk h (by decide) (by omega);exact⟨g,hA,hcap,fun j u hj=>hc _ _ (Zed p k i j u hk hj)⟩
end
structure CodeAt (w:World) (g k:Nat) (i:InsR):Prop where
 c0:w.cell? ⟨g,k*5,none⟩=some (.int .i64 i.op)
 c1:w.cell? ⟨g,k*5+1,none⟩=some (.int .i64 i.a)
 c2:w.cell? ⟨g,k*5+2,none⟩=some (.int .i64 i.b)
 c3:w.cell? ⟨g,k*5+3,none⟩=some (.int .i64 i.c)
 c4:w.cell? ⟨g,k*5+4,none⟩=some (.int .i64 i.imm)
theorem Hold.code {w0 w:World} {R:Asr} {g c k:Nat} {p:List InsR} {i:InsR} (h:Hold w0 w (Z0a (.slice (some ⟨g,0,none⟩) p.length c) p*R)) (hk:p[k]?=some i):CodeAt w g k i:=by
 obtain⟨g',hA,_,hc⟩:=h.codeAt hk;obtain rfl:g=g':=by injection hA with hA;injection hA
 exact⟨hc 0 _ rfl,hc 1 _ rfl,hc 2 _ rfl,hc 3 _ rfl,hc 4 _ rfl⟩
structure EvR where
 at_:Int
 th:Int
 kind:Int
 word:Int
 rd:Value
 wr:Value
 rs:List Int
 ws:List Int
 hb:rs.length<=1000000/\ws.length<=1000000
theorem EvR.none_:([]:List Int).length<=1000000/\([]:List Int).length<=1000000:=⟨Nat.zero_le _,Nat.zero_le _⟩
def EvR.cells (e:EvR):List Value:=[.int .i64 e.at_,.int .i64 e.th,.int .i64 e.kind,.int .i64 e.word,e.rd,e.wr]
def EvR.objs (e:EvR):Asr:=queA 3 e.rd (e.rs.map (Value.int .i64))*queA 3 e.wr (e.ws.map (Value.int .i64))
def evA (v:Value) (l:List EvR):Asr:=rowS 87 6 v l.length (l.flatMap EvR.cells)*sepR (l.map EvR.objs) Asr.emp
theorem Hold.nilEv {w0 w:World} {R:Asr} (h:Hold w0 w R):Hold w0 w (evA (.slice none 0 0) []*R):=by
 have h1:=(h.imp (Imp.Zlv R)).nilRowS 87 6;exact h1.join
end Go.Proofs.YtmlfangeanmmeaaGreatDoor
