/-
 What the proof of TopAlone leans on, part 1 of 49: Mem, Sep, Kit, Set, Sl, Zeros, Wd. No statement of its own.
-/
import Derived.Test.YtmlfangeanmmeaaGreatDoorRows
import Derived.WalkKit
import Derived.WalkSpells
import Derived.WalkLawsBesides
import Derived.OpenShut
import Derived.Below
import Derived.Laws.OwnMore
import Derived.Deep.AppendLies
import Derived.Deep.Draws
import Derived.Deep.RegionWith
import Derived.Deep.QuietTactic
import Derived.BigQuiet
import Derived.Maps.AppendAt
set_option maxHeartbeats 16000000
set_option maxRecDepth 8000
set_option linter.unusedVariables false
namespace Go.Proofs.YtmlfangeanmmeaaGreatDoor
open Go.RowKit
theorem hid {p:Prop} (h:p):Hid p:=h
structure Chg (S:List Nat) (w w':World):Prop where
 os:w'.os=w.os
 tape:w'.tape=w.tape
 output:w'.output=w.output
 size:w.heap.size<=w'.heap.size
 block:∀k,k<w.heap.size->k ∉ S->w'.heap[k]?=w.heap[k]?
section
variable {S T:List Nat} {a b c w w':World}
theorem Chg.refl (S:List Nat) (w:World):Chg S w w:=⟨rfl,rfl,rfl,Nat.le_refl _,fun _ _ _=>rfl⟩
theorem Chg.trans (h:Chg S a b) (k:Chg T b c) (hT:∀x∈T,x∈S\/a.heap.size<=x):Chg S a c :=
 ⟨k.os.trans h.os,k.tape.trans h.tape,k.output.trans h.output,Nat.le_trans h.size k.size,fun i hi hS =>
  (k.block i (Nat.lt_of_lt_of_le hi h.size) (fun hx=>by rcases hT i hx with h1|h1;exact hS h1;omega)).trans (h.block i hi hS)⟩
theorem Chg.trans' (h:Chg [] a b) (k:Chg S b c):Chg S a c :=
 ⟨k.os.trans h.os,k.tape.trans h.tape,k.output.trans h.output,Nat.le_trans h.size k.size,fun i hi hS=>(k.block i (Nat.lt_of_lt_of_le hi h.size) hS).trans (h.block i hi (by simp))⟩
theorem Chg.fresh (h:Chg S a b) (hS:∀x∈S,a.heap.size<=x):Chg [] a b:=⟨h.os,h.tape,h.output,h.size,fun i hi _=>h.block i hi (fun hx=>by have:=hS i hx;omega)⟩
theorem Chg.mono (h:Chg S a b) (hS:∀x∈S,x∈T\/a.heap.size<=x):Chg T a b :=
 ⟨h.os,h.tape,h.output,h.size,fun i hi hT=>h.block i hi (fun hx=>by rcases hS i hx with h1|h1;exact hT h1;omega)⟩
theorem Chg.drew (h:Chg S a b):Chg S a b.drew:=⟨h.os,h.tape,h.output,h.size,h.block⟩
theorem Chg.drewN (h:Chg S a b) (n:Nat):Chg S a (b.drewN n):=⟨h.os,h.tape,h.output,h.size,h.block⟩
theorem Chg.of_drewN {n:Nat} (h:Chg S (a.drewN n) b):Chg S a b:=⟨h.os,h.tape,h.output,h.size,h.block⟩
theorem Chg.alloc (h:Chg S a b) (o:Obj):Chg S a (b.alloc o) :=
 ⟨h.os,h.tape,h.output,Nat.le_trans h.size (by simp),fun i hi hS=>(Below.heap_alloc b o i (Nat.lt_of_lt_of_le hi h.size)).trans (h.block i hi hS)⟩
theorem Chg.setCell (h:Chg S a b) {p:Addr} (hp:p.block∈S\/a.heap.size<=p.block) (u:Value):Chg S a (b.setCell p u) :=
 ⟨h.os,h.tape,h.output,by simpa [World.setCell] using h.size,fun i hi hS=>(Below.heap_setCell b p u i (by
  rintro rfl;rcases hp with hp|hp
  ·exact hS hp
  ·omega)).trans (h.block i hi hS)⟩
theorem Chg.grown (h:Chg S a b) {row:Option Nat} (hg:b.grownBy c row) (hr:∀k,row=some k->k∈S\/a.heap.size<=k):Chg S a c :=
 ⟨hg.os.trans h.os,hg.tape.trans h.tape,hg.output.trans h.output,Nat.le_trans h.size hg.size,fun i hi hS =>
  (hg.block i (Nat.lt_of_lt_of_le hi h.size) (fun e=>by
   rcases hr i e.symm with h1|h1
   ·exact hS h1
   ·omega)).trans (h.block i hi hS)⟩
theorem Chg.below (h:Chg S a b) {B:Nat} (hB:B<=a.heap.size) (hS:∀x∈S,B<=x):Below B a b :=
 ⟨h.os,h.tape,h.output,h.size,fun i hi=>h.block i (by omega) (fun hx=>by have:=hS i hx;omega)⟩
theorem Chg.cell (h:Chg S a b) {p:Addr} (hp:p.block<a.heap.size) (hn:p.block ∉ S):b.cell? p=a.cell? p:=World.cell?_of_block (h.block p.block hp hn)
end
def Own (B:Nat) (S:List Nat):Prop:=∀x∈S,B<=x
theorem Own.nil (B:Nat):Own B []:=fun x hx=>by cases hx
theorem Z6c {S:List Nat} {w a b:World} (h:Below w.heap.size w a) (hc:Chg S a b) (ho:Own w.heap.size S):Below w.heap.size w b :=
 h.trans ((hc.below h.size ho).mono (Nat.le_refl _))
def Blk (w:World) (g:Nat) (t:TypeId) (cs:Array Value):Prop:=w.heap[g]?=some (.cells cs t (0,0))
section
variable {w w':World} {g:Nat} {t:TypeId} {cs:Array Value} {S:List Nat}
theorem Blk.lt (h:Blk w g t cs):g<w.heap.size:=by
 rcases Nat.lt_or_ge g w.heap.size with hlt|hge
 ·exact hlt
 ·unfold Blk at h;rw[Array.getElem?_eq_none hge] at h;cases h
theorem Blk.cell (h:Blk w g t cs) (i:Nat):w.cell? ⟨g,i,none⟩=cs[i]?:=cell_of_row w g i cs t (0,0) h
theorem Blk.some_ (h:Blk w g t cs) {i:Nat} {u:Value} (hi:cs[i]?=some u):w.cell? ⟨g,i,none⟩=some u:=(h.cell i).trans hi
theorem Blk.frozen (h:Blk w g t cs) (i:Nat):w.frozen? ⟨g,i,none⟩=false:=by
 unfold Blk at h;simp[World.frozen?,h]
theorem Blk.new (w:World) (t:TypeId) (cs:Array Value):Blk (w.alloc (.cells cs t)) w.heap.size t cs:=heap_alloc_new w _
theorem Blk.alloc (h:Blk w g t cs) (o:Obj):Blk (w.alloc o) g t cs:=(Below.heap_alloc w o g h.lt).trans h
theorem Blk.set_ (h:Blk w g t cs) (i:Nat) (u:Value):Blk (w.setCell ⟨g,i,none⟩ u) g t (cs.setIfInBounds i u):=by
 unfold Blk at h |-;simp[World.setCell,Array.getElem?_modify,h]
theorem Blk.far (h:Blk w g t cs) {p:Addr} (hp:g≠p.block) (u:Value):Blk (w.setCell p u) g t cs:=(Below.heap_setCell w p u g hp).trans h
theorem Blk.chg (h:Blk w g t cs) (hc:Chg S w w') (hg:g ∉ S):Blk w' g t cs:=(hc.block g h.lt hg).trans h
theorem Blk.ne_ {g':Nat} {t':TypeId} {cs':Array Value} (h:Blk w g t cs) (h':Blk w g' t' cs') (hne:t≠t'):g≠g':=by
 rintro rfl;unfold Blk at h h';rw[h] at h';injection h' with h'
 injection h' with _ ht
 exact hne ht
end
theorem Z1n (a:Addr) (n:Nat):(a.add n).block=a.block:=by unfold Addr.add;split <;> rfl
theorem Zcv (a:Addr) (i j:Nat):(a.add i).add j=a.add (i+j):=by
 unfold Addr.add
 by_cases hi:i=0 <;> by_cases hj:j=0 <;> simp[hi,hj,Nat.add_assoc]
structure Reads (w:World) (b:Nat) (A:Option Addr) (n:Nat) (xs:List Value):Prop where
 len:xs.length=n
 at_:∀k,k<n->∃ad u,A=some ad/\ad.block=b/\b<w.heap.size/\xs[k]?=some u/\w.cell? (ad.add k)=some u
section
variable {w w':World} {b n:Nat} {A:Option Addr} {xs:List Value} {S:List Nat}
theorem Reads.chg (h:Reads w b A n xs) (hc:Chg S w w') (hb:b ∉ S):Reads w' b A n xs :=
 ⟨h.len,fun k hk=>by
  obtain⟨ad,u,h1,h2,h3,h4,h5⟩:=h.at_ k hk;exact⟨ad,u,h1,h2,Nat.lt_of_lt_of_le h3 hc.size,h4,(hc.cell (by rw[Z1n];omega) (by rw[Z1n,h2];exact hb)).trans h5⟩⟩
theorem Reads.nil (w:World) (b:Nat):Reads w b none 0 []:=⟨rfl,fun k hk=>by omega⟩
theorem Reads.cellAt (h:Reads w b A n xs) {k:Nat} (hk:k<n):∃ad,A=some ad/\ad.block=b/\w.cell? (ad.add k)=some (xs[k]'(by rw[h.len];exact hk)):=by
 obtain⟨ad,u,h1,h2,_,h4,h5⟩:=h.at_ k hk;rw[List.getElem?_eq_getElem (by rw[h.len];exact hk)] at h4;exact⟨ad,h1,h2,by rw[h5,<- h4]⟩
theorem Reads.numAt {k:IntKind} {zs:List Int} (h:Reads w b A n (zs.map (Value.int k))) {i:Nat} (hi:i<n) :
  ∃ad,A=some ad/\ad.block=b/\w.cell? (ad.add i)=some (.int k (zs.getD i 0)):=by
 obtain⟨ad,u,h1,h2,_,h4,h5⟩:=h.at_ i hi;have hl:i<zs.length:=by have:=h.len;simp at this;omega
 refine⟨ad,h1,h2,?_⟩;rw[h5,<- h4];simp[List.getD,List.getElem?_eq_getElem hl]
end
def fpV (v:Value):List Nat:=v.ownBlock.toList
theorem mem_fpV {v:Value} {k:Nat}:k∈fpV v ↔ v.ownBlock=some k:=by unfold fpV;cases v.ownBlock <;> simp[eq_comm]
theorem Z29 (n c:Nat):fpV (.slice none n c)=[]:=rfl
theorem Z0x (a:Addr) (n c:Nat):fpV (.slice (some a) n c)=[a.block]:=rfl
section
variable {w w':World} {base:Nat} {e:TypeId} {size n:Nat} {v:Value} {xs:List Value} {S:List Nat}
theorem Z0m (h:w.ownsRow base e size v n xs) (hc:Chg S w w') (hv:∀k∈fpV v,k ∉ S):w'.ownsRow base e size v n xs:=by
 refine⟨h.1,?_⟩;rcases h.2 with hn|⟨g,cap,cur,rfl,hb,hgg,rest⟩
 ·exact .inl hn
 ·refine .inr ⟨g,cap,cur,rfl,hb,?_,rest⟩
  rw[hc.block g (Array.getElem?_eq_some_iff.1 hgg).1 (hv g (by rw[Z0x];simp))];exact hgg
theorem Z2x (h:w.ownsRow base e size v n xs):∀k∈fpV v,k<w.heap.size:=fun k hk=>(h.lt k (mem_fpV.1 hk)).2
theorem Z1m (h:w.ownsRow base e size v n xs):∃A c,v = .slice A n c:=by
 rcases h.2 with⟨rfl,rfl⟩|⟨g,cap,cur,rfl,_⟩
 ·exact⟨_,_,rfl⟩
 ·exact⟨_,_,rfl⟩
theorem Z2e {A:Option Addr} {c:Nat} (h:w.ownsRow base e 1 (.slice A n c) n xs):Reads w (A.elim 0 (·.block)) A n xs:=by
 refine⟨by simpa using h.1,fun k hk=>?_⟩;rcases h.2 with⟨_,h0⟩|⟨g,cap,cur,hv,_,hh,_⟩
 ·omega
 ·injection hv with hA
  subst hA;have hx:k<xs.length:=by have:=h.1;simp at this;omega
  refine⟨_,xs[k],rfl,rfl,?_,List.getElem?_eq_getElem hx,?_⟩
  ·exact(Array.getElem?_eq_some_iff.1 hh).1
  ·exact h.cells (g:=g) rfl k _ (List.getElem?_eq_getElem hx)
theorem Zbh {base':Nat} (h:w.ownsRow base e size v n xs) (hb:base'<=base):w.ownsRow base' e size v n xs:=by
 refine⟨h.1,?_⟩;rcases h.2 with hn|⟨g,cap,cur,rfl,hg,rest⟩
 ·exact .inl hn
 ·exact .inr ⟨g,cap,cur,rfl,by omega,rest⟩
theorem Z8p (h:w.ownsRow base e size v n xs):∀k∈fpV v,base<=k:=fun k hk=>(h.lt k (mem_fpV.1 hk)).1
theorem Z16 {g:Nat} {t:TypeId} {cs:Array Value} (h:w.ownsRow base e size v n xs) (hg:Blk w g t cs) (hne:e≠t):g ∉ fpV v:=by
 rcases h.2 with⟨rfl,_⟩|⟨g',cap,cur,rfl,_,hh,_⟩
 ·simp[Z29]
 ·rw[Z0x]
  intro he;simp at he;subst he;exact Blk.ne_ (t:=e) hh hg hne rfl
end
section
variable {w w':World} {e:TypeId} {n c:Nat} {A:Option Addr} {xs:List Value}
theorem Z52 (h:w.ownsRow 0 e 1 (.slice A n c) n xs) {k:Nat} (hk:k<n) :
  ∃g,A=some ⟨g,0,none⟩/\g∈fpV (.slice A n c)/\w.cell? ⟨g,k,none⟩=xs[k]?/\w.frozen? ⟨g,k,none⟩=false /\
   ∀u,(w.setCell ⟨g,k,none⟩ u).ownsRow 0 e 1 (.slice A n c) n (xs.set k u):=by
 rcases h.2 with⟨hv,h0⟩|⟨g,cap,cur,hv,_⟩
 ·omega
 ·injection hv with hA hn hc
  subst hA;subst hc;exact⟨g,rfl,by rw[Z0x];simp,h.cellAt k (by omega),h.frozenAt k,fun u=>(h.stored k u).1⟩
end
theorem Z3j {P:Program} {W:World} {ops:Array Oper} {rest:List Oper} {o:Oper} {a:Act} {Q:Exit->Act->World->Prop} (hgd:o.guard=none) (s x:Operand) (t:TypeId)
  (ho:o.op = .call {callee:=.builtin .append,args:=#[s,x],argTypes:=#[t,t]})
  (e:TypeId) (i:TypeInfo) (z:Value) (bytes:Nat) (ht:P.underlying t=some (.slice e)) (hi:P.info? e=some i) (hz:i.zero=some z)
  (hsize:i.size=1) (hby:i.bytes=bytes) (hzs:z.cells.size=1)
  (v:Value) (n:Nat) (xs:List Value) (u:Value) (te:TypeId) (hs:a.eval s=v) (hown:W.ownsRow 0 e 1 v n xs)
  (hx:a.eval x = .slice (some ⟨W.heap.size,0,none⟩) 1 1) (h1:u.oneCell'=true) (hn:n<=1000000) (hb:bytes<=4096)
  (h:∀A' c' w',w'.ownsRow 0 e 1 (.slice A' (n+1) c') (n+1) (xs++[u])->Chg (fpV v) W w'->(∀k∈fpV (.slice A' (n+1) c'),k∈fpV v\/W.heap.size<=k)->wpList P ops Q rest (a.put o.dst (.slice A' (n+1) c')) w') :
  wpList P ops Q (o::rest) a (W.alloc (.cells #[u] te)):=by
 refine wpList_append_own_at (W.alloc (.cells #[u] te)) hgd s x t ho 0 e i z 1 bytes ht hi hz hsize hby hzs (by decide) v n xs hs (hown.alloc _) ⟨W.heap.size,0,none⟩ 1 1 [u] hx rfl (cell_one_new _ _ _) ?_ ?_ ?_ (Nat.zero_le _) ?_
 ·intro u' hu';simp at hu';subst hu';exact h1
 ·unfold maxLen;omega
 ·have:(n+1)*bytes<=(n+1)*4096:=Nat.mul_le_mul_left _ hb
  omega
 ·intro v' w' hown' hg _ hat
  obtain⟨A',c',hv⟩:=Z1m hown';subst hv;refine h A' c' w' hown' (((Chg.refl _ W).alloc _).grown hg (fun k hk=>.inl (mem_fpV.2 hk))) (fun k hk=>?_);rcases hat with e1|e1
  ·left;rw[mem_fpV] at hk |-;rw[<- e1];exact hk
  ·right;rw[mem_fpV] at hk;rw[e1] at hk;simp at hk;omega
structure Asr where
 P:World->List Nat->Prop
 chg:∀{S:List Nat} {w w':World} {fp:List Nat},P w fp->Chg S w w'->(∀b∈fp,b ∉ S)->P w' fp
 lt:∀{w:World} {fp:List Nat},P w fp->∀b∈fp,b<w.heap.size
def Asr.sep (p q:Asr):Asr where
 P w fp:=∃f g,fp=f++g/\p.P w f/\q.P w g/\∀b∈f,b ∉ g
 chg:=by
  rintro S w w' fp ⟨f,g,rfl,hp,hq,hd⟩ hc hS;exact⟨f,g,rfl,p.chg hp hc (fun b hb=>hS b (List.mem_append_left _ hb)),q.chg hq hc (fun b hb=>hS b (List.mem_append_right _ hb)),hd⟩
 lt:=by
  rintro w fp ⟨f,g,rfl,hp,hq,hd⟩ b hb;rcases List.mem_append.1 hb with h|h
  ·exact p.lt hp b h
  ·exact q.lt hq b h
def Asr.emp:Asr:=⟨fun _ fp=>fp=[],fun h _ _=>h,fun h b hb=>by rw[h] at hb;cases hb⟩
instance:Mul Asr:=⟨Asr.sep⟩
structure Hold (w0 w:World) (p:Asr):Prop where
 ex:∃fp,p.P w fp/\Own w0.heap.size fp
 below:Below w0.heap.size w0 w
section
variable {w0 w w':World} {p q r s t R:Asr}
theorem Hold.start (w0:World):Hold w0 w0 Asr.emp:=⟨⟨[],rfl,Own.nil _⟩,Below.refl _ _⟩
theorem Hold.size (h:Hold w0 w p):w0.heap.size<=w.heap.size:=h.below.size
theorem Hold.chg0 (h:Hold w0 w p) (hc:Chg [] w w'):Hold w0 w' p:=by
 obtain⟨fp,hp,ho⟩:=h.ex;exact⟨⟨fp,p.chg hp hc (by simp),ho⟩,Z6c h.below hc (Own.nil _)⟩
theorem Hold.drewN (h:Hold w0 w p) (n:Nat):Hold w0 (w.drewN n) p:=h.chg0 ((Chg.refl _ _).drewN n)
theorem Hold.drew (h:Hold w0 w p):Hold w0 w.drew p:=h.chg0 (Chg.refl _ _).drew
theorem Hold.alloc (h:Hold w0 w p) (o:Obj):Hold w0 (w.alloc o) p:=h.chg0 ((Chg.refl _ _).alloc o)
theorem Hold.new (h:Hold w0 w R) {fp:List Nat} (hc:Chg [] w w') (hp:p.P w' fp) (hn:∀b∈fp,w.heap.size<=b):Hold w0 w' (p*R):=by
 obtain⟨g,hg,ho⟩:=h.ex;refine⟨⟨fp++g,⟨fp,g,rfl,hp,R.chg hg hc (by simp),fun b hb hb2=>?_⟩,fun b hb=>?_⟩,Z6c h.below hc (Own.nil _)⟩
 ·have:=R.lt hg b hb2
  have:=hn b hb;omega
 ·rcases List.mem_append.1 hb with h1|h1
  ·exact Nat.le_trans h.size (hn b h1)
  ·exact ho b h1
theorem Hold.open_ (h:Hold w0 w (p*R)):∃fp,p.P w fp/\∀(w':World) (q:Asr) (fp':List Nat),Chg fp w w'->q.P w' fp'->(∀b∈fp',b∈fp\/w.heap.size<=b)->Hold w0 w' (q*R):=by
 obtain⟨fp,⟨f,g,rfl,hp,hR,hd⟩,ho⟩:=h.ex;have hof:Own w0.heap.size f:=fun b hb=>ho b (List.mem_append_left _ hb);refine⟨f,hp,fun w' q fp' hc hq hf=>⟨⟨fp'++g,⟨fp',g,rfl,hq,R.chg hR hc (fun b hb hb2=>hd b hb2 hb),fun b hb hb2=>?_⟩,fun b hb=>?_⟩,Z6c h.below hc hof⟩⟩
 ·rcases hf b hb with h1|h1
  ·exact hd b h1 hb2
  ·have:=R.lt hR b hb2;omega
 ·rcases List.mem_append.1 hb with h1|h1
  ·rcases hf b h1 with h2|h2
   ·exact hof b h2
   ·exact Nat.le_trans h.size h2
  ·exact ho b (List.mem_append_right _ h1)
theorem Hold.get (h:Hold w0 w (p*R)):∃fp,p.P w fp:=by
 obtain⟨fp,⟨f,g,rfl,hp,hR,hd⟩,ho⟩:=h.ex;exact⟨f,hp⟩
theorem Hold.drop (h:Hold w0 w (p*R)):Hold w0 w R:=by
 obtain⟨fp,⟨f,g,rfl,hp,hR,hd⟩,ho⟩:=h.ex;exact⟨⟨g,hR,fun b hb=>ho b (List.mem_append_right _ hb)⟩,h.below⟩
theorem Hold.swap (h:Hold w0 w (p*(q*R))):Hold w0 w (q*(p*R)):=by
 obtain⟨fp,⟨f,g,rfl,hp,⟨f2,g2,rfl,hq,hR,hd2⟩,hd⟩,ho⟩:=h.ex;refine⟨⟨f2++(f++g2),⟨f2,f++g2,rfl,hq,⟨f,g2,rfl,hp,hR,fun b hb hb2=>hd b hb (List.mem_append_right _ hb2)⟩,fun b hb hb2=>?_⟩,fun b hb=>ho b ?_⟩,h.below⟩
 ·rcases List.mem_append.1 hb2 with h1|h1
  ·exact hd b h1 (List.mem_append_left _ hb)
  ·exact hd2 b hb h1
 ·simp only[List.mem_append] at hb |-
  rcases hb with h1|h1|h1
  ·exact .inr (.inl h1)
  ·exact .inl h1
  ·exact .inr (.inr h1)
def Imp (p q:Asr):Prop:=∀w fp,p.P w fp->∃fp',q.P w fp'/\∀b∈fp',b∈fp
theorem Imp.refl (p:Asr):Imp p p:=fun _ fp h=>⟨fp,h,fun _ hb=>hb⟩
theorem Imp.trans (h:Imp p q) (k:Imp q r):Imp p r:=fun w fp hp=>by
 obtain⟨f1,h1,s1⟩:=h w fp hp;obtain⟨f2,h2,s2⟩:=k w f1 h1;exact⟨f2,h2,fun b hb=>s1 b (s2 b hb)⟩
theorem Imp.both (h:Imp p q) (k:Imp r s):Imp (p*r) (q*s):=by
 rintro w fp ⟨f,g,rfl,hp,hr,hd⟩;obtain⟨f1,h1,s1⟩:=h w f hp;obtain⟨f2,h2,s2⟩:=k w g hr;refine⟨f1++f2,⟨f1,f2,rfl,h1,h2,fun b hb hb2=>hd b (s1 b hb) (s2 b hb2)⟩,fun b hb=>?_⟩;rcases List.mem_append.1 hb with h|h
 ·exact List.mem_append_left _ (s1 b h)
 ·exact List.mem_append_right _ (s2 b h)
theorem Imp.under (p:Asr) (k:Imp r s):Imp (p*r) (p*s):=(Imp.refl p).both k
theorem Imp.on (r:Asr) (k:Imp p q):Imp (p*r) (q*r):=k.both (Imp.refl r)
theorem Imp.comm (p q:Asr):Imp (p*q) (q*p):=by
 rintro w fp ⟨f,g,rfl,hp,hq,hd⟩;exact⟨g++f,⟨g,f,rfl,hq,hp,fun b hb hb2=>hd b hb2 hb⟩,fun b hb=>by simp only[List.mem_append] at hb |-;exact hb.symm⟩
theorem Imp.assoc (p q r:Asr):Imp ((p*q)*r) (p*(q*r)):=by
 rintro w fp ⟨f,g,rfl,⟨f2,g2,rfl,hp,hq,hd2⟩,hr,hd⟩;refine⟨f2++(g2++g),⟨f2,g2++g,rfl,hp,⟨g2,g,rfl,hq,hr,fun b hb hb2=>hd b (List.mem_append_right _ hb) hb2⟩,fun b hb hb2=>?_⟩,fun b hb=>by simpa [or_assoc] using hb⟩;rcases List.mem_append.1 hb2 with h1|h1
 ·exact hd2 b hb h1
 ·exact hd b (List.mem_append_left _ hb) h1
theorem Imp.assoc' (p q r:Asr):Imp (p*(q*r)) ((p*q)*r):=by
 rintro w fp ⟨f,g,rfl,hp,⟨f2,g2,rfl,hq,hr,hd2⟩,hd⟩;refine⟨(f++f2)++g2,⟨f++f2,g2,rfl,⟨f,f2,rfl,hp,hq,fun b hb hb2=>hd b hb (List.mem_append_left _ hb2)⟩,hr,fun b hb hb2=>?_⟩,fun b hb=>by simpa [or_assoc] using hb⟩;rcases List.mem_append.1 hb with h1|h1
 ·exact hd b h1 (List.mem_append_right _ hb2)
 ·exact hd2 b h1 hb2
theorem Imp.swap (p q r:Asr):Imp (p*(q*r)) (q*(p*r)):=((Imp.assoc' p q r).trans (Imp.on r (Imp.comm p q))).trans (Imp.assoc q p r)
theorem Imp.third (p q r s:Asr):Imp (p*(q*(r*s))) (r*(p*(q*s))):=(Imp.under p (Imp.swap q r s)).trans (Imp.swap p r (q*s))
theorem Imp.third' (p q r s:Asr):Imp (r*(p*(q*s))) (p*(q*(r*s))):=(Imp.swap r p (q*s)).trans (Imp.under p (Imp.swap r q s))
theorem Imp.fourth (p q r t s:Asr):Imp (p*(q*(r*(t*s)))) (t*(p*(q*(r*s)))):=(Imp.under p (Imp.third q r t s)).trans (Imp.swap p t (q*(r*s)))
theorem Imp.fourth' (p q r t s:Asr):Imp (t*(p*(q*(r*s)))) (p*(q*(r*(t*s)))):=(Imp.swap t p _).trans (Imp.under p (Imp.third' q r t s))
theorem Imp.drop (p q:Asr):Imp (p*q) q:=by
 rintro w fp ⟨f,g,rfl,hp,hq,hd⟩;exact⟨g,hq,fun b hb=>List.mem_append_right _ hb⟩
theorem Hold.imp (h:Hold w0 w p) (k:Imp p q):Hold w0 w q:=by
 obtain⟨fp,hp,ho⟩:=h.ex;obtain⟨f,hq,hs⟩:=k w fp hp;exact⟨⟨f,hq,fun b hb=>ho b (hs b hb)⟩,h.below⟩
theorem Hold.third (h:Hold w0 w (p*(q*(r*R)))):Hold w0 w (r*(p*(q*R))):=h.imp (Imp.third p q r R)
theorem Hold.fourth (h:Hold w0 w (p*(q*(r*(t*R))))):Hold w0 w (t*(p*(q*(r*R)))):=h.imp (Imp.fourth p q r t R)
theorem Hold.fourth' (h:Hold w0 w (t*(p*(q*(r*R))))):Hold w0 w (p*(q*(r*(t*R)))):=h.imp (Imp.fourth' p q r t R)
theorem Hold.join (h:Hold w0 w (p*(q*R))):Hold w0 w ((p*q)*R):=h.imp (Imp.assoc' p q R)
theorem Hold.part (h:Hold w0 w ((p*q)*R)):Hold w0 w (p*(q*R)):=h.imp (Imp.assoc p q R)
theorem Hold.old (h:Hold w0 w p) {a:Addr} {v:Value} (hc:w0.cell? a=some v):w.cell? a=some v:=by
 rw[h.below.cell (World.block_lt_of_cell? w0 a hc)];exact hc
end
def sepR:List Asr->Asr->Asr
 | [],R=>R
 | p::ps,R=>p*sepR ps R
section
variable {w0 w w':World} {p q R:Asr} {ps:List Asr}
theorem Imp.Zlv (p:Asr):Imp p (Asr.emp*p):=fun w fp h=>⟨fp,⟨[],fp,rfl,rfl,h,fun b hb=>by cases hb⟩,fun _ hb=>hb⟩
theorem Imp.nth (p R:Asr):∀(ps:List Asr) (j:Nat),ps[j]?=some p->Imp (sepR ps R) (p*sepR (ps.set j Asr.emp) R)
 | [],j,h=>by simp at h
 | q::ps,0,h=>by
  simp at h;subst h;exact Imp.under _ (Imp.Zlv _)
 | q::ps,j+1,h=>(Imp.under q (Imp.nth p R ps j (by simpa using h))).trans (Imp.swap q p _)
theorem Imp.putAt (p R:Asr):∀(ps:List Asr) (j:Nat),ps[j]?=some Asr.emp->Imp (p*sepR ps R) (sepR (ps.set j p) R)
 | [],j,h=>by simp at h
 | q::ps,0,h=>by
  simp at h;subst h;exact Imp.under p (Imp.drop _ _)
 | q::ps,j+1,h=>(Imp.swap p q _).trans (Imp.under q (Imp.putAt p R ps j (by simpa using h)))
theorem Imp.rest (R:Asr):∀ps:List Asr,Imp (sepR ps R) R
 | []=>Imp.refl _
 | q::ps=>(Imp.drop _ _).trans (Imp.rest R ps)
theorem Imp.flat (R:Asr):∀ps:List Asr,Imp (sepR ps Asr.emp*R) (sepR ps R)
 | []=>Imp.drop _ _
 | q::ps=>(Imp.assoc _ _ _).trans (Imp.under q (Imp.flat R ps))
theorem Imp.fold (R:Asr):∀ps:List Asr,Imp (sepR ps R) (sepR ps Asr.emp*R)
 | []=>Imp.Zlv _
 | q::ps=>(Imp.under q (Imp.fold R ps)).trans (Imp.assoc' _ _ _)
theorem Hold.nth (h:Hold w0 w (sepR ps R)) (j:Nat) (hj:ps[j]?=some p):Hold w0 w (p*sepR (ps.set j Asr.emp) R):=h.imp (Imp.nth p R ps j hj)
theorem Hold.putAt (h:Hold w0 w (p*sepR ps R)) (j:Nat) (hj:ps[j]?=some Asr.emp):Hold w0 w (sepR (ps.set j p) R):=h.imp (Imp.putAt p R ps j hj)
theorem Hold.rest (h:Hold w0 w (sepR ps R)):Hold w0 w R:=h.imp (Imp.rest R ps)
end
def Asr.ex {α:Type} (p:α->Asr):Asr where
 P w fp:=∃x,(p x).P w fp
 chg:=fun⟨x,h⟩ hc hS=>⟨x,(p x).chg h hc hS⟩
 lt:=fun⟨x,h⟩=>(p x).lt h
theorem Hold.exOpen {α:Type} {p:α->Asr} {w0 w:World} {R:Asr} (h:Hold w0 w (Asr.ex p*R)):∃x,Hold w0 w (p x*R):=by
 obtain⟨fp,⟨f,g,rfl,⟨x,hp⟩,hR,hd⟩,ho⟩:=h.ex;exact⟨x,⟨_,⟨f,g,rfl,hp,hR,hd⟩,ho⟩,h.below⟩
theorem Hold.exClose {α:Type} {p:α->Asr} {w0 w:World} {R:Asr} {x:α} (h:Hold w0 w (p x*R)):Hold w0 w (Asr.ex p*R):=by
 obtain⟨fp,⟨f,g,rfl,hp,hR,hd⟩,ho⟩:=h.ex;exact⟨⟨_,⟨f,g,rfl,⟨x,hp⟩,hR,hd⟩,ho⟩,h.below⟩
def rowA (e:TypeId) (v:Value) (n:Nat) (xs:List Value):Asr where
 P w fp:=w.ownsRow 0 e 1 v n xs/\fp=fpV v
 chg:=by
  rintro S w w' fp ⟨h,rfl⟩ hc hS;exact⟨Z0m h hc hS,rfl⟩
 lt:=by
  rintro w fp ⟨h,rfl⟩;exact Z2x h
def blkA (t:TypeId) (g:Nat) (cs:Array Value):Asr where
 P w fp:=Blk w g t cs/\fp=[g]
 chg:=by
  rintro S w w' fp ⟨h,rfl⟩ hc hS;exact⟨h.chg hc (hS g (by simp)),rfl⟩
 lt:=by
  rintro w fp ⟨h,rfl⟩ b hb;rw[List.mem_singleton.1 hb];exact h.lt
section
variable {w0 w w':World} {p q r s t R:Asr}
theorem Hold.row {e:TypeId} {v:Value} {n:Nat} {xs:List Value} (h:Hold w0 w (rowA e v n xs*R)):w.ownsRow 0 e 1 v n xs:=by
 obtain⟨fp,h1,_⟩:=h.get;exact h1
theorem Hold.rowReads {e:TypeId} {A:Option Addr} {c n:Nat} {xs:List Value} (h:Hold w0 w (rowA e (.slice A n c) n xs*R)):Reads w (A.elim 0 (·.block)) A n xs:=Z2e h.row
theorem Hold.newRow {e:TypeId} {v:Value} {n:Nat} {xs:List Value} {B:Nat} (h:Hold w0 w R) (hc:Chg [] w w') (ho:w'.ownsRow B e 1 v n xs) (hB:w.heap.size<=B):Hold w0 w' (rowA e v n xs*R) :=
 h.new hc ⟨Zbh ho (Nat.zero_le _),rfl⟩ (fun b hb=>Nat.le_trans hB (Z8p ho b hb))
theorem Hold.blk {t:TypeId} {g:Nat} {cs:Array Value} (h:Hold w0 w (blkA t g cs*R)):Blk w g t cs:=by
 obtain⟨fp,h1,_⟩:=h.get;exact h1
theorem Hold.newBlk {t:TypeId} {cs:Array Value} (h:Hold w0 w R):Hold w0 (w.alloc (.cells cs t)) (blkA t w.heap.size cs*R) :=
 h.new ((Chg.refl _ _).alloc _) ⟨Blk.new _ _ _,rfl⟩ (by simp)
theorem nb {w0 w:World} {R:Asr} (h:Hold w0 w R):Hold w0 (w.alloc (.cells #[.int .i64 0,.int .i64 0,.int .i64 0,.int .u64 0,.int .u64 0,.bool false] 50)) (blkA 50 w.heap.size #[.int .i64 0,.int .i64 0,.int .i64 0,.int .u64 0,.int .u64 0,.bool false]*R):=h.newBlk
theorem Hold.Zlp {t:TypeId} {g:Nat} {cs:Array Value} (h:Hold w0 w (blkA t g cs*R)) (i:Nat) (u:Value):Hold w0 (w.setCell ⟨g,i,none⟩ u) (blkA t g (cs.setIfInBounds i u)*R):=by
 obtain⟨fp,⟨hb,rfl⟩,K⟩:=h.open_;exact K _ _ [g] ((Chg.refl _ _).setCell (.inl (by simp)) _) ⟨hb.set_ i u,rfl⟩ (fun b hb=>.inl hb)
theorem Hold.setRow {e:TypeId} {A:Option Addr} {c n:Nat} {xs:List Value} (h:Hold w0 w (rowA e (.slice A n c) n xs*R)) {k:Nat} (hk:k<n) :
  ∃g,A=some ⟨g,0,none⟩/\w.cell? ⟨g,k,none⟩=xs[k]?/\w.frozen? ⟨g,k,none⟩=false/\∀u,Hold w0 (w.setCell ⟨g,k,none⟩ u) (rowA e (.slice A n c) n (xs.set k u)*R):=by
 obtain⟨fp,⟨hr,rfl⟩,K⟩:=h.open_;obtain⟨g,hA,hg,hc,hf,hs⟩:=Z52 hr hk;exact⟨g,hA,hc,hf,fun u=>K _ _ _ ((Chg.refl _ _).setCell (.inl hg) _) ⟨hs u,rfl⟩ (fun b hb=>.inl hb)⟩
theorem Hold.grow {e:TypeId} {v v':Value} {n n':Nat} {xs xs':List Value} (h:Hold w0 w (rowA e v n xs*R)) (ho:w'.ownsRow 0 e 1 v' n' xs') (hc:Chg (fpV v) w w') (hs:∀k∈fpV v',k∈fpV v\/w.heap.size<=k):Hold w0 w' (rowA e v' n' xs'*R):=by
 obtain⟨fp,⟨hr,rfl⟩,K⟩:=h.open_;exact K _ _ _ hc ⟨ho,rfl⟩ hs
end
theorem Hold.make {w0 W w1:World} {R:Asr} {e n g B:Nat} {k:IntKind} (h:Hold w0 W R) (hown:w1.ownsRow B e 1 (.slice (some ⟨g,0,none⟩) n n) n (madeCells #[Value.int k 0] n).toList) (hg:W.grownBy w1 none) (hB:W.heap.size<=B) :
  Hold w0 w1 (rowA e (.slice (some ⟨g,0,none⟩) n n) n ((List.replicate n (0:Int)).map (Value.int k))*R):=by
 rw[toList_madeCells_one] at hown;exact h.newRow ((Chg.refl _ _).grown hg (by simp)) (by simpa using hown) hB
theorem Zcc (a:Int):0<=IntKind.u64.wrap a:=by rw[IntKind.wrap_u64];omega
theorem Zgl {xs:List Int} {j:Nat} (h:j<xs.length):xs.getD j 0∈xs:=by simp[List.getD,List.getElem?_eq_getElem h]
theorem Zja {xs:List Int} {j:Nat} (h:j<xs.length):xs.getD j 0=xs[j]:=by simp[List.getD,List.getElem?_eq_getElem h]
theorem Z83 {a b:Bool} (h:a=b):Ending.returned (.bool a) = .returned (.bool b):=by rw[h]
def Za1 (a n:Int):Int:=IntKind.u64.wrap a%n
theorem Z25 (a n:Int) (hn:0<n):0<=Za1 a n:=Int.emod_nonneg _ (by omega)
theorem Z5r (a n:Int) (hn:0<n):Za1 a n<n:=Int.emod_lt_of_pos _ hn
theorem place_any (w:World) (a n:Int) (h0:0<n) (h1:n<=9223372036854775807) :
  Calls Tryz.prog 7 #[.int .i64 a,.int .i64 n] w fun e w'=>e = .returned (.int .i64 (Za1 a n))/\w=w':=by
 have u0:=Zcc a;have p0:=Z25 a n h0;have p1:=Z5r a n h0;have hp:IntKind.u64.wrap a%n=Za1 a n:=rfl;have hn:(n==0)=false:=beq_eq_false_iff_ne.2 (by omega);have Hp:=hid hp;clear hp;go_enter Tryz.func7,Tryz.ntmps7;go_wp2;go_ret;refine⟨?_,rfl⟩;simp;rw[Hp.out];exact IntWalk.wrap64_in _ ⟨by omega,by omega⟩
theorem index_any (w:World) (A:Option Addr) (n c bA:Nat) (xs:List Int) (v:Int) (hA:Reads w bA A n (xs.map (Value.int .i64))) (hn:n<=9223372036854775807) :
  Calls Tryz.prog 209 #[.slice A n c,.int .i64 v] w fun e w'=>(∃k:Int,e = .returned (.int .i64 k)/\(0<=k ↔ v∈xs))/\w=w':=by
 have lx:xs.length=n:=by simpa using hA.len
 go_enter Tryz.func209,Tryz.ntmps209;go_wp2_with fail
 go_loop [8,5] (fun i _=>∃k:Nat,k<=n/\i = .int .i64 k/\∀j,j<k->xs.getD j 0≠v) (fun i _=>n - (intOf i).toNat)
 case atStart=>exact⟨0,Nat.zero_le _,rfl,fun j hj=>by omega⟩
 case round =>
  obtain⟨k,hk,rfl,heq⟩:=hrel;have He:=hid heq;clear heq
  by_cases hlt:k<n
  ·obtain⟨ad,rfl,_,h1⟩:=hA.numAt hlt
   obtain⟨x,hx⟩:∃x,x=xs.getD k 0:=⟨_,rfl⟩;rw[<- hx] at h1;have Hx:=hid hx;clear hx
   by_cases hxy:x=v
   ·subst hxy
    go_wp2_with fail;go_ret;refine⟨⟨k,rfl,?_⟩,rfl⟩;rw[Hx.out];exact⟨fun _=>Zgl (by omega),fun _=>by omega⟩
   ·have e2:(v==x)=false:=beq_eq_false_iff_ne.2 (fun h=>hxy h.symm)
    go_wp2_with fail
    go_round
    case rel=>exact⟨k+1,by omega,by go_num,fun j hj=>by
     rcases Nat.lt_or_ge j k with h|h
     ·exact He.out j h
     ·obtain rfl:j=k:=by omega
      rw[<- Hx.out];exact hxy⟩
    case measure=>simp[intOf];omega
  ·go_wp2_with fail
   go_ret;refine⟨⟨-1,rfl,?_⟩,rfl⟩;refine⟨fun h=>absurd h (by omega),fun hm=>?_⟩;obtain⟨j,hj,rfl⟩:=List.getElem_of_mem hm;exact absurd (Zja hj) (He.out j (by omega))
theorem contains_any (w:World) (A:Option Addr) (n c bA:Nat) (xs:List Int) (v:Int) (hA:Reads w bA A n (xs.map (Value.int .i64))) (hn:n<=9223372036854775807) :
  Calls Tryz.prog 148 #[.slice A n c,.int .i64 v] w fun e w'=>e = .returned (.bool (decide (v∈xs)))/\w=w':=by
 go_enter Tryz.func148,Tryz.ntmps148;go_wp2_with fail;refine(index_any w A n c bA xs v hA hn).mono ?_;rintro e w' ⟨⟨k,rfl,hk⟩,rfl⟩;have Hk:=hid hk;clear hk;go_wp2_with fail;go_ret;exact⟨Z83 (decide_eq_decide.2 Hk.out),rfl⟩
theorem Z1i:(Tryz.prog.info? 3).map (fun i=>(i.zero,i.size,i.bytes))=some (some (.int .i64 0),1,8):=by kernel_rfl
theorem Z1c (w:World) (A:Option Addr) (n c bA:Nat) (xs:List Int) (hA:Reads w bA A n (xs.map (Value.int .i64))) (hn:n<=1000000) :
  Calls Tryz.prog 24 #[.slice A n c] w fun e w'=>∃A' c',e = .returned (.slice A' n c')/\w'.ownsRow w.heap.size 3 1 (.slice A' n c') n (xs.map (Value.int .i64))/\Chg [] w w':=by
 have lx:xs.length=n:=by simpa using hA.len
 obtain⟨i0,hi,hz0,hz1,hz2⟩:=info_parts Z1i;have q22:∀(w:World) (a:Option Addr) (n c n' c':Nat),(binOp .eql 23 (.slice a n c) (.slice none n' c')).run Tryz.prog w = .ok (.bool a.isNone) w:=fun w a n c n' c'=>Lib.run_eql_slice_nil w _ _ a n c n' c' Tryz.underlying23
 cases A with
 | none =>
  have h0:n=0:=by
   rcases Nat.eq_zero_or_pos n with h|h
   ·exact h
   ·obtain⟨ad,u,h1,_⟩:=hA.at_ 0 h
    cases h1
  subst h0;obtain rfl:xs=[]:=List.eq_nil_of_length_eq_zero lx;clear hA lx;go_enter Tryz.func24,Tryz.ntmps24;go_wp2;go_ret;exact⟨_,_,rfl,World.ownsRow_nil _ _ _ _,Chg.refl _ _⟩
 | some ad =>
  have hnews:∀j u,(xs.map (Value.int .i64))[j]?=some u->(w.alloc (.cells #[] 3)).cell? (ad.add j)=some u:=by
   intro j u hu;have hj:j<n:=by
    have:=(List.getElem?_eq_some_iff.1 hu).1;simpa [lx] using this
   obtain⟨ad',u',h1,h2,h3,h4,h5⟩:=hA.at_ j hj;injection h1 with h1
   subst h1;rw[World.cell?_alloc_lt _ _ _ (by rw[Z1n];omega),h5,<- h4,hu]
  have Hn:=hid hnews;clear hnews;go_enter Tryz.func24,Tryz.ntmps24;go_wp2_with (at_builtin;refine wpList_append_own _ rfl _ _ 23 rfl w.heap.size 3 i0 (.int .i64 0) 1 8 Tryz.underlying23 hi hz0 hz1 hz2 rfl (by decide) _ _ _ rfl (World.ownsRow_made w #[] 0 (Nat.le_refl _) (Nat.zero_le _) rfl) ad n c (xs.map (Value.int .i64)) rfl ?qc1 ?qc2 ?qc3 ?qc4 ?qc5 ?qc6 ?_)
  case qc1=>simp;omega
  case qc2=>exact Hn.out
  case qc3=>exact ints_oneCell _ _
  case qc4=>unfold maxLen;omega
  case qc5=>omega
  case qc6=>simp
  intro v' w1 hown hgrow hnil;obtain⟨A',c',hv⟩:=Z1m hown;rw[hv] at hown;rw[hv];clear hv hnil;go_wp2;go_ret;refine⟨A',c',rfl,by simpa using hown,((Chg.refl _ w).alloc _).grown hgrow (by intro k hk;simp[Value.ownBlock] at hk;right;omega)⟩
theorem Z3q:(Tryz.prog.info? 34).map (fun i=>(i.zero,i.size,i.bytes))=some (some (.int .u64 0),1,8):=by kernel_rfl
theorem Z0t (w:World) (A:Option Addr) (n c bA:Nat) (xs:List Int) (hA:Reads w bA A n (xs.map (Value.int .u64))) (hn:n<=1000000) :
  Calls Tryz.prog 31 #[.slice A n c] w fun e w'=>∃A' c',e = .returned (.slice A' n c')/\w'.ownsRow w.heap.size 34 1 (.slice A' n c') n (xs.map (Value.int .u64))/\Chg [] w w':=by
 have lx:xs.length=n:=by simpa using hA.len
 obtain⟨i0,hi,hz0,hz1,hz2⟩:=info_parts Z3q;have q22:∀(w:World) (a:Option Addr) (n c n' c':Nat),(binOp .eql 33 (.slice a n c) (.slice none n' c')).run Tryz.prog w = .ok (.bool a.isNone) w:=fun w a n c n' c'=>Lib.run_eql_slice_nil w _ _ a n c n' c' Tryz.underlying33
 cases A with
 | none =>
  have h0:n=0:=by
   rcases Nat.eq_zero_or_pos n with h|h
   ·exact h
   ·obtain⟨ad,u,h1,_⟩:=hA.at_ 0 h
    cases h1
  subst h0;obtain rfl:xs=[]:=List.eq_nil_of_length_eq_zero lx;clear hA lx;go_enter Tryz.func31,Tryz.ntmps31;go_wp2;go_ret;exact⟨_,_,rfl,World.ownsRow_nil _ _ _ _,Chg.refl _ _⟩
 | some ad =>
  have hnews:∀j u,(xs.map (Value.int .u64))[j]?=some u->(w.alloc (.cells #[] 34)).cell? (ad.add j)=some u:=by
   intro j u hu;have hj:j<n:=by
    have:=(List.getElem?_eq_some_iff.1 hu).1;simpa [lx] using this
   obtain⟨ad',u',h1,h2,h3,h4,h5⟩:=hA.at_ j hj;injection h1 with h1
   subst h1;rw[World.cell?_alloc_lt _ _ _ (by rw[Z1n];omega),h5,<- h4,hu]
  have Hn:=hid hnews;clear hnews;go_enter Tryz.func31,Tryz.ntmps31;go_wp2_with (at_builtin;refine wpList_append_own _ rfl _ _ 33 rfl w.heap.size 34 i0 (.int .u64 0) 1 8 Tryz.underlying33 hi hz0 hz1 hz2 rfl (by decide) _ _ _ rfl (World.ownsRow_made w #[] 0 (Nat.le_refl _) (Nat.zero_le _) rfl) ad n c (xs.map (Value.int .u64)) rfl ?qc1 ?qc2 ?qc3 ?qc4 ?qc5 ?qc6 ?_)
  case qc1=>simp;omega
  case qc2=>exact Hn.out
  case qc3=>exact ints_oneCell _ _
  case qc4=>unfold maxLen;omega
  case qc5=>omega
  case qc6=>simp
  intro v' w1 hown hgrow hnil;obtain⟨A',c',hv⟩:=Z1m hown;rw[hv] at hown;rw[hv];clear hv hnil;go_wp2;go_ret;refine⟨A',c',rfl,by simpa using hown,((Chg.refl _ w).alloc _).grown hgrow (by intro k hk;simp[Value.ownBlock] at hk;right;omega)⟩
def Z09 (c:Int):Nat:=(max 0 (min c 32)).toNat
def Z4x (cap:Nat) (xs:List Int) (v:Int):Bool:=decide (v∈xs) || decide (xs.length<cap)
def addL (cap:Nat) (xs:List Int) (v:Int):List Int:=if v∈xs then xs else if xs.length<cap then xs++[v] else xs
theorem Zb5 (cap:Nat) (xs:List Int) (v:Int) (h:xs.length<=cap):(addL cap xs v).length<=cap:=by
 unfold addL
 split
 ·exact h
 ·split
  ·simp;omega
  ·exact h
theorem Zh9 {cap:Nat} {xs:List Int} {v:Int} (h:v∈xs):addL cap xs v=xs:=by simp[addL,h]
theorem Zf8 {cap:Nat} {xs:List Int} {v:Int} (h:v ∉ xs) (hr:xs.length<cap):addL cap xs v=xs++[v]:=by simp[addL,h,hr]
theorem Zf9 {cap:Nat} {xs:List Int} {v:Int} (h:v ∉ xs) (hr:¬ xs.length<cap):addL cap xs v=xs:=by simp[addL,h,hr]
structure SetAt (T:TypeId) (w:World) (fp:List Nat) (g:Nat) (cap:Nat) (xs:List Int):Prop where
 ex:∃A c,Blk w g T #[.int .i64 cap,.slice A xs.length c]/\w.ownsRow 0 3 1 (.slice A xs.length c) xs.length (xs.map (Value.int .i64))/\fp=g::fpV (.slice A xs.length c)
section
variable {T:TypeId} {w w':World} {fp S:List Nat} {g cap:Nat} {xs:List Int}
theorem SetAt.chg (h:SetAt T w fp g cap xs) (hc:Chg S w w') (hd:∀b∈fp,b ∉ S):SetAt T w' fp g cap xs:=by
 obtain⟨A,c,hb,hr,rfl⟩:=h.ex;exact⟨A,c,hb.chg hc (hd g (by simp)),Z0m hr hc (fun k hk=>hd k (by simp[hk])),rfl⟩
theorem SetAt.lt (h:SetAt T w fp g cap xs):∀b∈fp,b<w.heap.size:=by
 obtain⟨A,c,hb,hr,rfl⟩:=h.ex;intro b hb';rcases List.mem_cons.1 hb' with rfl|h
 ·exact hb.lt
 ·exact Z2x hr b h
theorem SetAt.drewN (h:SetAt T w fp g cap xs) (n:Nat):SetAt T (w.drewN n) fp g cap xs:=⟨h.ex⟩
end
theorem Zib (w:World) (c:Int) :
  Calls Tryz.prog 187 #[.int .i64 c] w fun e w'=>e = .returned (.pointer (some ⟨w.heap.size,0,none⟩))/\w.alloc (.cells #[.int .i64 (Z09 c),.slice none 0 0] 251)=w':=by
 by_cases h1:32<c
 ·have hm:((Z09 c:Nat):Int)=32:=by unfold Z09;omega
  rw[hm];clear hm;go_enter Tryz.func187,Tryz.ntmps187;go_wp2;go_ret;exact⟨rfl,rfl⟩
 ·by_cases h2:0<c
  ·have hm:((Z09 c:Nat):Int)=c:=by unfold Z09;omega
   rw[hm];clear hm;go_enter Tryz.func187,Tryz.ntmps187;go_wp2;go_ret;exact⟨rfl,rfl⟩
  ·have hm:((Z09 c:Nat):Int)=0:=by unfold Z09;omega
   rw[hm];clear hm;go_enter Tryz.func187,Tryz.ntmps187;go_wp2;go_ret;exact⟨rfl,rfl⟩
theorem Zfr (w:World) (c:Int) :
  Calls Tryz.prog 187 #[.int .i64 c] w fun e w'=>∃g,e = .returned (.pointer (some ⟨g,0,none⟩))/\SetAt 251 w' [g] g (Z09 c) []/\Chg [] w w'/\w.heap.size<=g :=
 (Zib w c).mono fun e w' ⟨he,hw⟩=>⟨_,he,hw ▸ ⟨none,0,Blk.new _ _ _,World.ownsRow_nil _ _ _ _,rfl⟩,hw ▸ (Chg.refl _ _).alloc _,Nat.le_refl _⟩
theorem Z9v (w:World) (fp:List Nat) (g cap:Nat) (xs:List Int) (v:Int) (h:SetAt 251 w fp g cap xs) (hl:xs.length<=1000000) :
  Calls Tryz.prog 210 #[.pointer (some ⟨g,0,none⟩),.int .i64 v] w fun e w'=>e = .returned (.bool (decide (v∈xs)))/\w=w':=by
 obtain⟨A,c,hb,hr,rfl⟩:=h.ex;have c1:w.cell? ⟨g,1,none⟩=some (.slice A xs.length c):=hb.some_ rfl;have hR:=Z2e hr;clear hb hr h;go_enter Tryz.func210,Tryz.ntmps210;go_wp2_with (go_at_call 148;refine(contains_any _ _ _ _ _ _ _ hR (by omega)).mono ?_;rintro e w' ⟨rfl,rfl⟩);go_ret;exact⟨rfl,rfl⟩
theorem Zfs (w:World) (fp:List Nat) (g cap:Nat) (xs:List Int) (h:SetAt 251 w fp g cap xs) (hl:xs.length<=1000000) :
  Calls Tryz.prog 161 #[.pointer (some ⟨g,0,none⟩)] w fun e w'=>∃A' c',e = .returned (.slice A' xs.length c')/\w'.ownsRow w.heap.size 3 1 (.slice A' xs.length c') xs.length (xs.map (Value.int .i64))/\Chg [] w w':=by
 obtain⟨A,c,hb,hr,rfl⟩:=h.ex;have c1:w.cell? ⟨g,1,none⟩=some (.slice A xs.length c):=hb.some_ rfl;have hR:=Z2e hr;clear hb hr h;go_enter Tryz.func161,Tryz.ntmps161;go_wp2_with fail;refine(Z1c _ _ _ _ _ _ hR hl).mono ?_;rintro e w1 ⟨A',c',rfl,ho,hc⟩;go_wp2;go_ret;exact⟨A',c',rfl,ho,hc⟩
def Z8h (T:TypeId) (w:World) (fp:List Nat) (g cap:Nat) (xs:List Int) (v:Int) (e:Ending) (w':World):Prop :=
 e = .returned (.bool (Z4x cap xs v))/\∃fp',SetAt T w' fp' g cap (addL cap xs v)/\Chg fp w w'/\∀b∈fp',b∈fp\/w.heap.size<=b
theorem Zid (w:World) (fp:List Nat) (g cap:Nat) (xs:List Int) (v:Int) (h:SetAt 251 w fp g cap xs) (hl:xs.length<=cap) (hcap:cap<=1000000) :
  Calls Tryz.prog 149 #[.pointer (some ⟨g,0,none⟩),.int .i64 v] w (Z8h 251 w fp g cap xs v):=by
 have h0:=h;obtain⟨A,c,hb,hr,hfp⟩:=h.ex;have hFp:=hid hfp;clear hfp;have c0:w.cell? ⟨g,0,none⟩=some (.int .i64 cap):=hb.some_ rfl;have c1:w.cell? ⟨g,1,none⟩=some (.slice A xs.length c):=hb.some_ rfl;have f1:=hb.frozen 1
 by_cases hm:v∈xs
 ·have hd:decide (v∈xs)=true:=by simp[hm]
  have Hd:=hid hd;have hfin:Z4x cap xs v=true:=by simp[Z4x,hm]
  have Hfin:=hid hfin;have hpost:Z8h 251 w fp g cap xs v (.returned (.bool true)) w:=⟨by rw[hfin],fp,by rw[Zh9 hm];exact h0,Chg.refl _ _,fun b hb=>.inl hb⟩;have Hp:=hid hpost;clear hd hfin hpost hm;go_enter Tryz.func149,Tryz.ntmps149;go_wp2_with (go_at_call 210;refine(Z9v _ _ _ _ _ _ h0 (by omega)).mono ?_;rintro e w' ⟨rfl,rfl⟩;rw[Hd.out]);go_ret;exact Hp.out
 ·have hd : decide (v∈xs)=false:=by simp[hm]
  have Hd:=hid hd
  by_cases hlt:xs.length<cap
  ·have hfin:Z4x cap xs v=true:=by simp[Z4x,hlt]
   have hL:addL cap xs v=xs++[v]:=Zf8 hm hlt;have Hfin:=hid hfin;have HL:=hid hL;have hge:decide (cap<=xs.length)=false:=by simp;omega
   clear hd hfin hL hm;obtain⟨i0,hi,hz0,hz1,hz2⟩:=info_parts Z1i;go_enter Tryz.func149,Tryz.ntmps149;go_wp2_with (go_at_call 210;refine(Z9v _ _ _ _ _ _ h0 (by omega)).mono ?_;rintro e w' ⟨rfl,rfl⟩;rw[Hd.out]);go_quiet (fail);have hr':(w.drewN nq).ownsRow 0 3 1 (.slice A xs.length c) xs.length (xs.map (Value.int .i64)):=hr;go_wp2_with (at_builtin;refine Z3j rfl _ _ 23 rfl 3 i0 (.int .i64 0) 8 Tryz.underlying23 hi hz0 hz1 hz2 rfl (.slice A xs.length c) xs.length (xs.map (Value.int .i64)) (.int .i64 v) _ rfl hr' rfl rfl (by omega) (by decide) ?_);intro A' c' w1 hown hC0 hfp1;have hC1:Chg (fpV (.slice A xs.length c)) w w1:=hC0.of_drewN;have hB1:Blk w1 g 251 #[.int .i64 cap,.slice A xs.length c]:=hb.chg hC1 (Z16 hr hb (by decide));have d1:w1.cell? ⟨g,1,none⟩=some (.slice A xs.length c):=hB1.some_ rfl;have e1:=hB1.frozen 1;have hL2:(addL cap xs v).length=xs.length+1:=by rw[HL.out];simp
   have hne:g ∉ fpV (.slice A' (xs.length+1) c'):=Z16 hown hB1 (by decide);have hpost:Z8h 251 w fp g cap xs v (.returned (.bool true)) (w1.setCell ⟨g,1,none⟩ (.slice A' (xs.length+1) c')):=by
    refine⟨by rw[Hfin.out],g::fpV (.slice A' (xs.length+1) c'),⟨A',c',?_,?_,?_⟩,?_,?_⟩
    ·rw[hL2];exact hB1.set_ 1 _
    ·rw[hL2,HL.out,List.map_append];exact Z0m hown ((Chg.refl [g] w1).setCell (.inl (by simp)) _) (fun k hk=>by simp;rintro rfl;exact hne hk)
    ·rw[hL2]
    ·exact(hC1.mono (fun k hk=>.inl (by rw[hFp.out];simp[hk]))).setCell (.inl (by rw[hFp.out];simp)) _
    ·intro k hk
     rw[hFp.out];rcases List.mem_cons.1 hk with rfl|hk
     ·simp
     ·rcases hfp1 k hk with h1|h1
      ·simp[h1]
      ·exact .inr h1
   have Hp:=hid hpost;clear hL2 hpost;go_wp2;go_ret;exact Hp.out
  ·have hge:decide (cap<=xs.length)=true:=by simp;omega
   have hfin:Z4x cap xs v=false:=by simp[Z4x,hlt,hm]
   have hpost:∀q,Z8h 251 w fp g cap xs v (.returned (.bool false)) (w.drewN q):=fun q=>⟨by rw[hfin],fp,by rw[Zf9 hm hlt];exact h0.drewN q,(Chg.refl _ _).drewN q,fun b hb=>.inl hb⟩;have Hp:=hid hpost;clear hd hfin hpost hm;go_enter Tryz.func149,Tryz.ntmps149;go_wp2_with (go_at_call 210;refine(Z9v _ _ _ _ _ _ h0 (by omega)).mono ?_;rintro e w' ⟨rfl,rfl⟩;rw[Hd.out]);go_quiet (fail);go_wp2;go_ret;exact Hp.out _
theorem Hold.undrew {w0 w:World} {p:Asr} (h:Hold w0 w.drew p):Hold w0 w p:=h.chg0 ⟨rfl,rfl,rfl,Nat.le_refl _,fun _ _ _=>rfl⟩
theorem Imp.pick (R:Asr):∀(is:List Nat) (l:List Asr),is.Nodup->(∀i∈is,i<l.length)->Imp (sepR l R) (sepR (is.map fun i=>l.getD i Asr.emp) R)
 | [],l,_,_=>Imp.rest R l
 | j::js,l,hn,hl=>by
  have hj:j<l.length:=hl j (by simp);have ih:=Imp.pick R js (l.set j Asr.emp) (List.nodup_cons.1 hn).2 (fun i hi=>by rw[List.length_set];exact hl i (by simp[hi]));have he:(js.map fun i=>(l.set j Asr.emp).getD i Asr.emp)=js.map fun i=>l.getD i Asr.emp:=List.map_congr_left fun i hi=>by
   have hij:j≠i:=fun h=>(List.nodup_cons.1 hn).1 (h ▸ hi);simp[List.getD,List.getElem?_set_ne hij]
  rw[he] at ih;exact(Imp.nth (l.getD j Asr.emp) R l j (by simp[List.getD,List.getElem?_eq_getElem hj])).trans (Imp.under _ ih)
section
variable {w0 w:World} {R a b c d e f g h' i':Asr}
theorem Hold.pk2 (h:Hold w0 w (a*(b*R))) (is:List Nat) (hn:is.Nodup/\∀i∈is,i<2:=by decide):Hold w0 w (sepR (is.map fun i=>[a,b].getD i Asr.emp) R):=h.imp (Imp.pick R is [a,b] hn.1 hn.2)
theorem Hold.pk3 (h:Hold w0 w (a*(b*(c*R)))) (is:List Nat) (hn:is.Nodup/\∀i∈is,i<3:=by decide):Hold w0 w (sepR (is.map fun i=>[a,b,c].getD i Asr.emp) R):=h.imp (Imp.pick R is [a,b,c] hn.1 hn.2)
theorem Hold.pk4 (h:Hold w0 w (a*(b*(c*(d*R))))) (is:List Nat) (hn:is.Nodup/\∀i∈is,i<4:=by decide):Hold w0 w (sepR (is.map fun i=>[a,b,c,d].getD i Asr.emp) R):=h.imp (Imp.pick R is [a,b,c,d] hn.1 hn.2)
theorem Hold.pk5 (h:Hold w0 w (a*(b*(c*(d*(e*R)))))) (is:List Nat) (hn:is.Nodup/\∀i∈is,i<5:=by decide):Hold w0 w (sepR (is.map fun i=>[a,b,c,d,e].getD i Asr.emp) R):=h.imp (Imp.pick R is [a,b,c,d,e] hn.1 hn.2)
theorem Hold.pk6 (h:Hold w0 w (a*(b*(c*(d*(e*(f*R))))))) (is:List Nat) (hn:is.Nodup/\∀i∈is,i<6:=by decide):Hold w0 w (sepR (is.map fun i=>[a,b,c,d,e,f].getD i Asr.emp) R):=h.imp (Imp.pick R is [a,b,c,d,e,f] hn.1 hn.2)
theorem Hold.pk7 (h:Hold w0 w (a*(b*(c*(d*(e*(f*(g*R)))))))) (is:List Nat) (hn:is.Nodup/\∀i∈is,i<7:=by decide):Hold w0 w (sepR (is.map fun i=>[a,b,c,d,e,f,g].getD i Asr.emp) R):=h.imp (Imp.pick R is [a,b,c,d,e,f,g] hn.1 hn.2)
theorem Hold.pk8 (h:Hold w0 w (a*(b*(c*(d*(e*(f*(g*(h'*R))))))))) (is:List Nat) (hn:is.Nodup/\∀i∈is,i<8:=by decide):Hold w0 w (sepR (is.map fun i=>[a,b,c,d,e,f,g,h'].getD i Asr.emp) R):=h.imp (Imp.pick R is [a,b,c,d,e,f,g,h'] hn.1 hn.2)
theorem Hold.pk9 (h:Hold w0 w (a*(b*(c*(d*(e*(f*(g*(h'*(i'*R)))))))))) (is:List Nat) (hn:is.Nodup/\∀i∈is,i<9:=by decide):Hold w0 w (sepR (is.map fun i=>[a,b,c,d,e,f,g,h',i'].getD i Asr.emp) R):=h.imp (Imp.pick R is [a,b,c,d,e,f,g,h',i'] hn.1 hn.2)
end
def slA (A:Option Addr) (n c:Nat) (xs:List Value):Asr where
 P w fp:=n<=c/\c<=maxLen/\∃b,Reads w b A n xs/\fp=if n=0 then [] else [b]
 chg:=by
  rintro S w w' fp ⟨h1,h2,b,h,rfl⟩ hc hS;refine⟨h1,h2,b,?_,rfl⟩
  by_cases hn:n=0
  ·subst hn;exact⟨h.len,fun k hk=>by omega⟩
  ·exact h.chg hc (hS b (by rw[if_neg hn];simp))
 lt:=by
  rintro w fp ⟨h1,h2,b,h,rfl⟩ x hx
  by_cases hn:n=0
  ·rw[if_pos hn] at hx;cases hx
  ·rw[if_neg hn] at hx
   obtain⟨ad,u,_,_,h3,_⟩:=h.at_ 0 (by omega);rw[List.mem_singleton.1 hx];exact h3
theorem Imp.rowSl (e A n c:_) (xs:List Value):Imp (rowA e (.slice A n c) n xs) (slA A n c xs):=by
 rintro w fp ⟨h,rfl⟩;have hr:=Z2e h;refine⟨_,⟨?_,?_,_,hr,rfl⟩,?_⟩
 ·rcases h.2 with⟨hv,h0⟩|⟨g,cap,cur,hv,_,_,hl,hm,_⟩
  ·omega
  ·injection hv with _ _ hc;omega
 ·rcases h.2 with⟨hv,h0⟩|⟨g,cap,cur,hv,_,_,hl,hm,_⟩
  ·injection hv with _ _ hc;rw[hc];exact Nat.zero_le _
  ·injection hv with _ _ hc;omega
 ·intro b hb
  by_cases hn:n=0
  ·rw[if_pos hn] at hb;cases hb
  ·rw[if_neg hn] at hb
   obtain⟨ad,u,hA,hab,_⟩:=hr.at_ 0 (by omega);rw[List.mem_singleton.1 hb];subst hA;rw[Z0x];simp
section
variable {w0 w:World} {R:Asr} {A:Option Addr} {n c:Nat} {xs:List Value}
theorem Hold.sl (h:Hold w0 w (slA A n c xs*R)):n<=c/\c<=maxLen/\∃b,Reads w b A n xs:=by
 obtain⟨fp,h1,h2,b,h3,_⟩:=h.get;exact⟨h1,h2,b,h3⟩
theorem Hold.slLen (h:Hold w0 w (slA A n c xs*R)):xs.length=n:=by
 obtain⟨_,_,b,h3⟩:=h.sl;exact h3.len
theorem Hold.slAt (h:Hold w0 w (slA A n c xs*R)) {k:Nat} (hk:k<n):∃ad,A=some ad/\w.cell? (ad.add k)=xs[k]?/\∀w',Hold w0 w' (slA A n c xs*R)->w'.cell? (ad.add k)=xs[k]?:=by
 obtain⟨_,_,b,h3⟩:=h.sl;obtain⟨ad,hA,_,hc⟩:=h3.cellAt hk;refine⟨ad,hA,by rw[hc,List.getElem?_eq_getElem],fun w' h'=>?_⟩;obtain⟨_,_,b',h4⟩:=h'.sl;obtain⟨ad',hA',_,hc'⟩:=h4.cellAt hk;rw[hA] at hA';injection hA' with hA'
 subst hA';rw[hc',List.getElem?_eq_getElem]
end
theorem Hold.slAt2 {w0 w:World} {R:Asr} {A:Option Addr} {n c:Nat} {xs:List Value} (h:Hold w0 w (slA A n c xs*R)) {k:Nat} (hk:k<n):∃ad,A=some ad/\∀w' R',Hold w0 w' (slA A n c xs*R')->w'.cell? (ad.add k)=xs[k]?:=by
 obtain⟨ad,hA,_⟩:=h.slAt hk;refine⟨ad,hA,fun w' R' h'=>?_⟩;obtain⟨ad',hA',hc,_⟩:=h'.slAt hk;rw[hA] at hA';injection hA' with hA'
 subst hA';exact hc
theorem Imp.slTail (ad:Addr) (n c:Nat) (x:Value) (xs:List Value):Imp (slA (some ad) (n+1) c (x::xs)) (slA (if c=1 then some ad else some (ad.add 1)) n (c - 1) xs):=by
 rintro w fp ⟨h1,h2,b,h,rfl⟩;refine⟨_,⟨by omega,by omega,b,?_,rfl⟩,?_⟩
 ·refine⟨by have:=h.len;simp at this;exact this,fun k hk=>?_⟩
  obtain⟨ad',u,hA,hb,hlt,hx,hc⟩:=h.at_ (k+1) (by omega);injection hA with hA
  subst hA;rw[if_neg (by omega)];exact⟨_,u,rfl,by rw[Z1n];exact hb,hlt,by simpa using hx,by rw[Zcv,Nat.add_comm];exact hc⟩
 ·intro y hy
  by_cases hn:n=0
  ·rw[if_pos hn] at hy;cases hy
  ·rw[if_neg hn] at hy
   rw[if_neg (by omega)];exact hy
theorem Reads.take {w:World} {b n k:Nat} {A:Option Addr} {xs:List Value} (h:Reads w b A n xs) (hk:k<=n):Reads w b A k (xs.take k) :=
 ⟨by have:=h.len;simp;omega,fun i hi=>by
  obtain⟨ad,u,h1,h2,h3,h4,h5⟩:=h.at_ i (by omega);exact⟨ad,u,h1,h2,h3,by rw[List.getElem?_take,if_pos hi];exact h4,h5⟩⟩
theorem Z1x {P:Program} (T:TypeId) (hT:P.underlying T=some (.slice (P.elem T))) (hs:∀w,(sizeOf (P.elem T)).run P w = .ok 1 w) (w:World) (ad:Addr) (n c:Nat) :
  (Instr.slice T (.slice (some ad) (n+1) c) (some (.int .i64 1)) none none).run P w = .ok (.slice (if c=1 then some ad else some (ad.add 1)) n (c - 1)) w:=by
 rw[run_slice_l w T (some ad) (n+1) c hT .i64 1 (by omega) (by omega),hs];simp[Result.andThen,sliced]
theorem Z2p {P:Program} (T:TypeId) (hT:P.underlying T=some (.slice (P.elem T))) (hs:∀w,(sizeOf (P.elem T)).run P w = .ok 1 w) (w:World) (a:Option Addr) (n c k:Nat) (hk:k<=c) :
  (Instr.slice T (.slice a n c) none (some (.int .i64 (k:Int))) none).run P w = .ok (.slice a k c) w:=by
 rw[run_slice_h w T a n c hT .i64 (k:Int) (by omega) (by omega),hs]
 cases a with
 | none=>simp[Result.andThen,sliced]
 | some a=>simp[Result.andThen,sliced,Addr.add]
theorem Z2m (z:Value) (n:Nat):Builtin.zeroCells #[z] n=(List.replicate n z).toArray:=by
 apply Array.ext';simp[Builtin.zeroCells];exact List.ext_getElem (by simp) (fun i h1 h2=>by simp[Nat.mod_one])
section
variable {P:Program} (w:World)
theorem Z79 (base:Nat) (t u ty e:TypeId) (i:TypeInfo) (k:IntKind) (bytes:Nat) (ht:P.underlying t=some (.slice e)) (hu:P.underlying u=some (.int .i64)) (hi:P.info? e=some i) (hz:i.zero=some (.int k 0))
  (hsize:i.size=1) (hby:i.bytes=bytes) (v:Value) (n:Nat) (xs:List Value) (hown:w.ownsRow base e 1 v n xs) (m:Nat)
  (h63:n+m<=1000000) (hbytes:bytes<=4096) (hbase:base<=w.heap.size) :
  ∃v' w',(Builtin.append_ #[t,u] ty #[v,.int .i64 m]).run P w = .ok v' w'/\w'.ownsRow base e 1 v' (n+m) (xs++List.replicate m (.int k 0))/\w.grownBy w' v.ownBlock/\(v'.ownBlock=v.ownBlock\/v'.ownBlock=some w.heap.size):=by
 subst hby;have hlen:(xs++List.replicate m (Value.int k 0)).length=(n+m)*1:=by rw[List.length_append,hown.1];simp
 have hl0:¬ (IntKind.i64.wrap (m:Int)<0):=by rw[IntWalk.i64_in _ (by omega)];omega
 have hwr:IntKind.i64.wrap (m:Int)=m:=IntWalk.i64_in _ (by omega);have hmb:(m:Int)*(i.bytes:Int)<=281474976710656:=by
  have h1:(m:Int)*(i.bytes:Int)<=1000000*4096:=Int.mul_le_mul (by omega) (by omega) (by omega) (by omega);omega
 have hml:¬ (281474976710656<(m:Int)*(i.bytes:Int)):=by omega
 have hnb:(n+m)*i.bytes<=1000000*4096:=Nat.mul_le_mul h63 hbytes;have grown:∀(old:Nat),old<n+m->∀(row:Option Nat),
   (w.drew.alloc (.cells (xs.toArray++(List.replicate m (Value.int k 0)).toArray++Builtin.zeroCells #[Value.int k 0] (grownCap w (n+m) old e - (n+m))) e)).ownsRow base e 1
    (.slice (some ⟨w.heap.size,0,none⟩) (n+m) (grownCap w (n+m) old e)) (n+m) (xs++List.replicate m (.int k 0)) /\
   w.grownBy (w.drew.alloc (.cells (xs.toArray++(List.replicate m (Value.int k 0)).toArray++Builtin.zeroCells #[Value.int k 0] (grownCap w (n+m) old e - (n+m))) e)) row:=by
  intro old ho row;have hge:=grownCap_ge w (n+m) old e;have hcm:grownCap w (n+m) old e<=maxLen:=grownCap_le_maxLen w (n+m) old e (by unfold maxLen;omega);refine⟨⟨hlen,.inr ⟨w.heap.size,_,_,rfl,hbase,heap_alloc_new w.drew _,hge,hcm,?_,?_⟩⟩,⟨rfl,rfl,rfl,by simp,fun j hj _=>heap_alloc_old w.drew _ hj⟩⟩
  ·have:=hown.1
   simp[size_zeroCells];omega
  ·simp only[Array.toList_append,List.append_assoc]
   rw[<- List.append_assoc,<- hlen];exact List.take_left
 have hai:∀W,(asInt (.int .i64 (m:Int))).run P W = .ok (m:Int) W:=fun _=>rfl;have hm0:¬ ((m:Int)<0):=by omega
 rcases hown.2 with⟨rfl,rfl⟩|⟨g,cap,cur,rfl,hbg,hg,hnc,hcm,hcs,htake⟩
 ·have hx:xs=[]:=List.eq_nil_of_length_eq_zero (by simpa using hown.1)
  subst hx
  by_cases hm:m=0
  ·subst hm
   refine⟨.slice none 0 0,w,?_,by simpa using World.ownsRow_nil w base e 1,⟨rfl,rfl,rfl,Nat.le_refl _,fun _ _ _=>rfl⟩,.inl rfl⟩;have h0:IntKind.i64.wrap 0=0:=rfl;have hai0:∀W,(asInt (.int .i64 0)).run P W = .ok 0 W:=fun _=>rfl;simp[Builtin.append_,run_underlying ht,run_underlying hu,sizeOf,typeInfo,hi,hai0,h0]
  ·have hgr:=grown 0 (by omega) (Value.ownBlock (.slice none 0 0))
   have h48':¬ (281474976710656<Builtin.nextslicecap m 0*i.bytes):=by rw[nextslicecap_zero (by omega)];simp at hnb;omega
   have h63':¬ (9223372036854775807<(m:Int)):=by omega
   simp only[Nat.zero_add,List.nil_append,Array.empty_append] at hgr |-;refine⟨_,_,?_,hgr.1,hgr.2,.inr rfl⟩;simp[Builtin.append_,run_underlying ht,run_underlying hu,sizeOf,typeInfo,zeroValue,hi,hz,hsize,hai,hwr,hml,hm,h48',h63',hm0,Builtin.firstCells,Question.forced,newRow,grownCap,Value.cells,Z2m]
 ·by_cases hroom:n+m<=cap
  ·have hst:=run_storeCells_at P g (n*1) e (List.replicate m (Value.int k 0)) 0 cur w hg (by simp;omega) (by simp[Value.oneCell'])
   simp only[Nat.add_zero,Nat.mul_one] at hst;have hr:(Builtin.append_ #[t,u] ty #[.slice (some ⟨g,0,none⟩) n cap,.int .i64 m]).run P w = .ok (.slice (some ⟨g,0,none⟩) (n+m) cap) (w.setRow g (cur.toList.take n++List.replicate m (Value.int k 0)++cur.toList.drop (n+(List.replicate m (Value.int k 0)).length)).toArray):=by
    by_cases hm:m=0
    ·subst hm
     have h0:IntKind.i64.wrap 0=0:=rfl;have hai0:∀W,(asInt (.int .i64 0)).run P W = .ok 0 W:=fun _=>rfl;simp at hst hroom;simp[Builtin.append_,run_underlying ht,run_underlying hu,sizeOf,typeInfo,hi,hsize,hai0,h0,Addr.add_lit,hroom,hst]
    ·simp[Builtin.append_,run_underlying ht,run_underlying hu,sizeOf,typeInfo,zeroValue,hi,hz,hsize,hai,hwr,hml,hroom,hm,hm0,Addr.add_lit,Value.cells,Z2m] at hst |-
     simp[hst]
   refine⟨_,_,hr,⟨hlen,.inr ⟨g,cap,_,rfl,hbg,setRow_heap w g cur _ e _ hg,hroom,hcm,?_,?_⟩⟩,⟨rfl,rfl,rfl,by simp,fun j _ hj=>setRow_other w g j _ (fun e=>hj (by simp[Value.ownBlock,e]))⟩,.inl rfl⟩
   ·simp
    omega
   ·have h9:=hown.1
    simp only[Nat.mul_one] at htake h9 |-;rw[htake,<- h9];exact List.take_left' (by simp)
  ·have holds:∀j u,xs[j]?=some u->w.cell? ((⟨g,0,none⟩:Addr).add j)=some u:=hown.cells (g:=g) rfl
   have hm:m≠0:=by omega
   have hfo:=run_firstCells_some (P:=P) w.drew 1 n ⟨g,0,none⟩ n cap xs hown.1 (by simpa using holds);have hgr:=grown cap (by omega) (Value.ownBlock (.slice (some ⟨g,0,none⟩) n cap));have h48':¬ (281474976710656<Builtin.nextslicecap (n+m) cap*i.bytes):=by have:=growslice_fits (need:=n+m) (old:=cap) (bytes:=i.bytes) (by omega) (by omega);omega
   have h63':¬ (9223372036854775807<(n:Int)+(m:Int)):=by omega
   refine⟨_,_,?_,hgr.1,hgr.2,.inr rfl⟩;simp[Builtin.append_,run_underlying ht,run_underlying hu,sizeOf,typeInfo,zeroValue,hi,hz,hsize,hai,hwr,hml,hroom,hm,h48',h63',hm0,hfo,Question.forced,newRow,grownCap,Value.cells,Z2m]
theorem Zff {o:Oper} {a:Act} {K:Act->World->Prop} {Q:Exit->Act->World->Prop} (s x:Operand) (t u:TypeId)
  (ho:o.op = .call {callee:=.builtin .append,args:=#[s,x],argTypes:=#[t,u]})
  (e:TypeId) (i:TypeInfo) (k:IntKind) (bytes:Nat) (ht:P.underlying t=some (.slice e)) (hu:P.underlying u=some (.int .i64)) (hi:P.info? e=some i) (hz:i.zero=some (.int k 0))
  (hsize:i.size=1) (hby:i.bytes=bytes) (v:Value) (n:Nat) (xs:List Value) (hs:a.eval s=v) (hown:w.ownsRow 0 e 1 v n xs) (m:Nat) (hx:a.eval x = .int .i64 m)
  (h63:n+m<=1000000) (hbytes:bytes<=4096)
  (h:∀A' c' w',w'.ownsRow 0 e 1 (.slice A' (n+m) c') (n+m) (xs++List.replicate m (.int k 0))->Chg (fpV v) w w'->(∀b∈fpV (.slice A' (n+m) c'),b∈fpV v\/w.heap.size<=b)->K (a.put o.dst (.slice A' (n+m) c')) w'):o.wp P a w K Q:=by
 obtain⟨v',w',hr,h2,h3,h4⟩:=Z79 (P:=P) w 0 t u o.type e i k bytes ht hu hi hz hsize hby v n xs hown m h63 hbytes (Nat.zero_le _);obtain⟨A',c',hv⟩:=Z1m h2;subst hv;unfold Oper.wp execOp;simp only[ho,resolve,invoke,builtin,Sem.run_bind,Sem.run_pure,Result.andThen_ok,List.map_toArray,List.map_cons,List.map_nil,hs,hx,hr];refine h A' c' w' h2 ((Chg.refl _ _).grown h3 (fun b hb=>.inl (mem_fpV.2 hb))) (fun b hb=>?_);rcases h4 with e1|e1
 ·left;rw[mem_fpV] at hb |-;rw[<- e1];exact hb
 ·right;rw[mem_fpV] at hb;rw[e1] at hb;simp at hb;omega
theorem Z8j {ops:Array Oper} {rest:List Oper} {o:Oper} {a:Act} {Q:Exit->Act->World->Prop} (hgd:o.guard=none) (s x:Operand) (t u:TypeId)
  (ho:o.op = .call {callee:=.builtin .append,args:=#[s,x],argTypes:=#[t,u]})
  (e:TypeId) (i:TypeInfo) (k:IntKind) (bytes:Nat) (ht:P.underlying t=some (.slice e)) (hu:P.underlying u=some (.int .i64)) (hi:P.info? e=some i) (hz:i.zero=some (.int k 0))
  (hsize:i.size=1) (hby:i.bytes=bytes) (v:Value) (n:Nat) (xs:List Value) (hs:a.eval s=v) (hown:w.ownsRow 0 e 1 v n xs) (m:Nat) (hx:a.eval x = .int .i64 m)
  (h63:n+m<=1000000) (hbytes:bytes<=4096)
  (h:∀A' c' w',w'.ownsRow 0 e 1 (.slice A' (n+m) c') (n+m) (xs++List.replicate m (.int k 0))->Chg (fpV v) w w'->(∀b∈fpV (.slice A' (n+m) c'),b∈fpV v\/w.heap.size<=b)->wpList P ops Q rest (a.put o.dst (.slice A' (n+m) c')) w'):wpList P ops Q (o::rest) a w :=
 wpList_plain hgd fun _ hK=>Zff w s x t u ho e i k bytes ht hu hi hz hsize hby v n xs hs hown m hx h63 hbytes fun A' c' w' h2 h3 h4=>hK _ _ (h A' c' w' h2 h3 h4)
end
theorem ver_any (w:World) (o:Int) (h0:0<=o) (h1:o<18446744073709551616):Calls Tryz.prog 208 #[.int .u64 o] w fun e w'=>e = .returned (.int .i64 (o / 64))/\w=w':=by
 go_enter Tryz.func208,Tryz.ntmps208;go_wp2;go_ret;exact⟨rfl,rfl⟩
theorem holder_any (w:World) (o:Int) (h0:0<=o) (h1:o<18446744073709551616):Calls Tryz.prog 207 #[.int .u64 o] w fun e w'=>e = .returned (.int .i64 (o%64 - 1))/\w=w':=by
 go_enter Tryz.func207,Tryz.ntmps207;go_wp2;go_ret;exact⟨rfl,rfl⟩
end Go.Proofs.YtmlfangeanmmeaaGreatDoor
