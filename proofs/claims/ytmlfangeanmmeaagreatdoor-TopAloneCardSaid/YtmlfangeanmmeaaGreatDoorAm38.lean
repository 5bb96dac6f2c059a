/-
 What the proof of TopAlone leans on, part 38 of 49: Nh. No statement of its own.
-/
import Derived.Test.YtmlfangeanmmeaaGreatDoorAm8
import Derived.Test.YtmlfangeanmmeaaGreatDoorAm36
import Derived.Test.YtmlfangeanmmeaaGreatDoorAm37
import Derived.Deep.DeepCutAuto
import Derived.Deep.CutBlock
set_option maxHeartbeats 16000000
set_option maxRecDepth 8000
set_option linter.unusedVariables false
namespace Go.Proofs.YtmlfangeanmmeaaGreatDoor
open Go.RowKit
theorem Z7h {oi:Option TypeInfo} {z:Value} {s b:Nat} (h:oi.map (fun i=>(i.zero,i.size,i.bytes))=some (some z,s,b)):∃i,oi=some i/\i.zero=some z/\i.size=s/\i.bytes=b:=by
 revert h
 cases oi with
 | none=>intro hi;cases hi
 | some i =>
  intro hi;simp only[Option.map_some,Option.some.injEq,Prod.mk.injEq] at hi;exact⟨i,rfl,hi.1,hi.2.1,hi.2.2⟩
theorem Z6v:∃i,Tryz.prog.info? 3=some i/\i.zero=some (.int .i64 0)/\i.size=1/\i.bytes=8:=Z7h (by kernel_rfl)
theorem Z6w:∃i,Tryz.prog.info? 28=some i/\i.zero=some (.agg #[.int .i64 0,.int .i64 0,.int .i64 0,.int .i64 0,.int .i64 0])/\i.size=5/\i.bytes=40:=Z7h (by kernel_rfl)
theorem Zfv {w:World} {e:TypeId} {size g c n j:Nat} {xs:List Value} (h:w.ownsRow 0 e size (.slice (some ⟨g,0,none⟩) n c) n xs) (u:Value):w.frozen? ⟨g,j,none⟩=false/\(w.setCell ⟨g,j,none⟩ u).ownsRow 0 e size (.slice (some ⟨g,0,none⟩) n c) n (xs.set j u):=by
 obtain⟨hl,⟨hv,_⟩|⟨g',cap,cur,hv,hb,hg,h1,h2,h3,h4⟩⟩:=h
 ·cases hv
 ·injection hv with hA hn hc
  injection hA with hA
  injection hA with hA
  subst hA;subst hc;refine⟨Blk.frozen hg j,by simp[hl],.inr ⟨g,c,cur.setIfInBounds j u,rfl,hb,Blk.set_ hg j u,h1,h2,by simp[h3],?_⟩⟩;rw[Array.toList_setIfInBounds,List.take_set,h4]
theorem Zbx (v:Int):∀(p:List InsR) (k:Nat) (i:InsR),p[k]?=some i->(insL p).set (k*5+4) (.int .i64 v)=insL (p.set k {i with imm:=v})
 | [],k,i,h=>by simp at h
 | y::p,0,i,h=>by
  simp only[List.getElem?_cons_zero,Option.some.injEq] at h;subst h;simp[insL]
 | y::p,k+1,i,h=>by
  have ih:=Zbx v p k i (by simpa using h);show ((y.cells.toList++insL p).set ((k+1)*5+4) (.int .i64 v))=y.cells.toList++insL (p.set k {i with imm:=v});rw[<- ih,List.set_append_right _ _ (by show 5<=_;omega)]
  congr 2
  show (k+1)*5+4 - 5=k*5+4;omega
theorem Hold.codeSet {w0 w:World} {R:Asr} {g c k:Nat} {p:List InsR} {i:InsR} (h:Hold w0 w (Z0a (.slice (some ⟨g,0,none⟩) p.length c) p*R)) (hk:p[k]?=some i) (v:Int) :
  w.frozen? ⟨g,k*5+4,none⟩=false/\Hold w0 (w.setCell ⟨g,k*5+4,none⟩ (.int .i64 v)) (Z0a (.slice (some ⟨g,0,none⟩) (p.set k {i with imm:=v}).length c) (p.set k {i with imm:=v})*R):=by
 obtain⟨fp,⟨hr|⟨g',cs,hv,hg,hx,hs,hl⟩,rfl⟩,K⟩:=h.open_
 ·obtain⟨h1,h2⟩:=Zfv (j:=k*5+4) hr (.int .i64 v)
  refine⟨h1,?_⟩;rw[Zbx v p k i hk] at h2;rw[show p.length=(p.set k {i with imm:=v}).length by simp] at h2;refine K _ _ _ ((Chg.refl _ _).setCell (.inl (by rw[Z0x];simp)) _) ⟨.inl h2,rfl⟩ (fun b hb=>.inl (by rw[Z0x] at hb |-;exact hb))
 ·exact absurd hs (by decide)
theorem Z6u {w0 w:World} {R:Asr} {A2 B2:Option Addr} {c2 cj2 n nj':Nat} {p:List InsR} {x:InsR} {o o':Bool} {js js':List Int} (hI:MkI p o js) (hn:n=p.length) (h13:n<13) (hjl:js.length<=n) (hx:InsV x) (h1:plcG x.op=1->o=true) (h2:plcG x.op=2->o=false) (hz:isJ x.op=true->x.imm=0)
  (ho:o'=if x.op=7 then true else if x.op=8 then false else o) (hj:js'=if isJ x.op=true then js++[(n:Int)] else js) (hnj:nj'=js'.length)
  (h:Hold w0 w (rowS 28 5 (.slice A2 (n+1) c2) (n+1) (insL p++x.cells.toList)*(queA 3 (.slice B2 nj' cj2) (js'.map (Value.int .i64))*R))) :
  ∃(A B:Option Addr) (cp cj:Nat) (p':List InsR) (o'':Bool) (js'':List Int),Value.bool o' = .bool o''/\Value.slice A2 (n+1) c2 = .slice A p'.length cp/\Value.slice B2 nj' cj2 = .slice B js''.length cj/\p'.length<=13/\js''.length<=p'.length/\MkI p' o'' js''/\Hold w0 w (Z0a (.slice A p'.length cp) p'*(queA 3 (.slice B js''.length cj) (js''.map (Value.int .i64))*R)):=by
 have hl:(p++[x]).length=n+1:=by rw[List.length_append,<- hn];rfl
 have hI2:=hI.push (by omega) hx h1 h2 hz;rw[<- hn,<- hj,<- ho] at hI2;have hjl2:js'.length<=n+1:=by
  rw[hj];split
  ·rw[List.length_append];show js.length+1<=n+1;omega
  ·omega
 subst hnj;refine⟨A2,B2,c2,cj2,p++[x],o',js',rfl,by rw[hl],rfl,by omega,by omega,hI2,?_⟩;have e:insL p++x.cells.toList=insL (p++[x]):=by simp[insL]
 rw[e] at h;rw[hl];unfold Z0a;rw[hl];exact h
section
variable {w0 w:World} {R:Asr}
def Zdu:List Bool->Code->Code
 | [],c=>c
 | b::l,.seq x y=>Zdu l (match b with|true=>y|false=>x)
 | _::l,.block _ c=>Zdu l c
 | _::l,.loop c=>Zdu l c
 | b::l,.cond _ x y=>Zdu l (match b with|true=>y|false=>x)
 | _,c=>c
def Zim (l:List Bool) (f:Func):Code:=match f.body with
 | some c=>Zdu l c
 | none=>.skip
def MkR (w0:World) (R:Asr) (v9 v10 v11:Value) (w:World):Prop:=∃(A B:Option Addr) (cp cj:Nat) (p:List InsR) (o:Bool) (js:List Int),v10 = .bool o/\v9 = .slice A p.length cp/\v11 = .slice B js.length cj/\p.length<=13/\js.length<=p.length/\MkI p o js/\Hold w0 w (Z0a (.slice A p.length cp) p*(queA 3 (.slice B js.length cj) (js.map (Value.int .i64))*R))
theorem Ze1 {wr:World} {A B:Option Addr} {n cp nj cj:Nat} {p:List InsR} {js:List Int} {o heap:Bool} {K M:Int} (hK:0<=K/\K<16) (hM:0<=M/\M<1152921504606846976) (h:Hold w0 wr (Z0a (.slice A n cp) p*(queA 3 (.slice B nj cj) (js.map (Value.int .i64))*R))) {K1:Act->World->Prop} {Q1:Exit->Act->World->Prop}
  {v0 v1 v4 v5 v6 v7 v8 v12 v16 v17 v18 v19 v20 v21 v22 v23 v24 v25 v26 v27 v28 v29 v30 v31 v32 v33 v34 v35 v36 v37 v38 v39 v40 v41 v42 v43 v44 v45 v46 v47 v48 v49 v50 v51 v52 v53 v54 v55 v56 v57 v58 v59 v60 v61 v62 v63 v64 v65 v66 v67 v68 v69 v70 v71 v72 v73 v74 v75 v76 v77 v78 v79 v80 v81 v82 v83 v84 v85 v86 v87 v88 v89 v90 v91 v92 v93 v94 v95 v96 v97 v98 v99 v100 v101 v102 v103 v104 v105 v106 v107 v108 v109 v110 v111 v112 v113 v114 v115 v116 v117 v118 v119 v120 v121 v122 v123 v124 v125 v126 v127 v128 v129 v130 v131 v132 v133 v134 v135 v136 v137 v138 v139 v140 v141 v142 v143 v144 v145 v146 v147 v148 v149 v150 v151 v152 v153 v154 v155 v156 v157 v158 v159 v160 v161 v162 v163 v164 v165 v166 v167 v168 v169 v170 v171 v172 v173 v174 v175 v176 v177 v178 v179 v180 v181 v182 v183 v184 v185 v186 v187 v188 v189 v190:Value}
  (hk:∀⦃u43 u44 u45 u46 u47 u48 u49 u50 u51 u52 u53 u54 u55 u56 u57 u58 u59 u60 u61 u62 u63 u64 u65 u66 u67 u68 u69 u70 u71 u72 u73 u74 u75 u76 u77 u78 u79 u80 u81 u82 u83 u84 u85 u86 u87 u88 u89 u90 u91 u92 u93 u94 u95 u96 u97 u98 u99 u100 u101 u102 u103 u104 u105 u106 u107 u108 u109 u110 u111 u112 u113 u114 u115 u116 u117 u118 u119 u120:Value⦄ ⦃w':World⦄ (op:Nat) (n':Int),op<18->(0<=n'/\n'<18446744073709551616)->((plcG (op:Int)=1->o=true)/\(plcG (op:Int)=2->o=false))->Hold w0 w' (Z0a (.slice A n cp) p*(queA 3 (.slice B nj cj) (js.map (Value.int .i64))*R))->K1 ⟨#[v0,v1,.bool heap,.bool true,v4,v5,v6,v7,v8,.slice A n cp,.bool o,.slice B nj cj,v12,.int .u64 n',.int .i64 K,.int .i64 (op:Int),v16,v17,v18,v19,v20,v21,v22,v23,v24,v25,v26,v27,v28,v29,v30,v31,v32,v33,v34,v35,v36,v37,v38,v39,v40,v41,v42,u43,u44,u45,u46,u47,u48,u49,u50,u51,u52,u53,u54,u55,u56,u57,u58,u59,u60,u61,u62,u63,u64,u65,u66,u67,u68,u69,u70,u71,u72,u73,u74,u75,u76,u77,u78,u79,u80,u81,u82,u83,u84,u85,u86,u87,u88,u89,u90,u91,u92,u93,u94,u95,u96,u97,u98,u99,u100,u101,u102,u103,u104,u105,u106,u107,u108,u109,u110,u111,u112,u113,u114,u115,u116,u117,u118,u119,u120,v121,v122,v123,v124,v125,v126,v127,v128,v129,v130,v131,v132,v133,v134,v135,v136,v137,v138,v139,v140,v141,v142,v143,v144,v145,v146,v147,v148,v149,v150,v151,v152,v153,v154,v155,v156,v157,v158,v159,v160,v161,v162,v163,v164,v165,v166,v167,v168,v169,v170,v171,v172,v173,v174,v175,v176,v177,v178,v179,v180,v181,v182,v183,v184,v185,v186,v187,v188,v189,v190],[]⟩ w') :
  Code.wp Tryz.prog (Zim [true,true,true,true,false,true,false,false,true,false,false,true,true,true,true,false] Tryz.f25) (Exit.then K1 Q1) ⟨#[v0,v1,.bool heap,.bool true,v4,v5,v6,v7,v8,.slice A n cp,.bool o,.slice B nj cj,v12,.int .u64 M,.int .i64 K,.int .i64 0,v16,v17,v18,v19,v20,v21,v22,v23,v24,v25,v26,v27,v28,v29,v30,v31,v32,v33,v34,v35,v36,v37,v38,v39,v40,v41,v42,v43,v44,v45,v46,v47,v48,v49,v50,v51,v52,v53,v54,v55,v56,v57,v58,v59,v60,v61,v62,v63,v64,v65,v66,v67,v68,v69,v70,v71,v72,v73,v74,v75,v76,v77,v78,v79,v80,v81,v82,v83,v84,v85,v86,v87,v88,v89,v90,v91,v92,v93,v94,v95,v96,v97,v98,v99,v100,v101,v102,v103,v104,v105,v106,v107,v108,v109,v110,v111,v112,v113,v114,v115,v116,v117,v118,v119,v120,v121,v122,v123,v124,v125,v126,v127,v128,v129,v130,v131,v132,v133,v134,v135,v136,v137,v138,v139,v140,v141,v142,v143,v144,v145,v146,v147,v148,v149,v150,v151,v152,v153,v154,v155,v156,v157,v158,v159,v160,v161,v162,v163,v164,v165,v166,v167,v168,v169,v170,v171,v172,v173,v174,v175,v176,v177,v178,v179,v180,v181,v182,v183,v184,v185,v186,v187,v188,v189,v190],[]⟩ wr:=by
 have H:=hid h;have HK:=hid hk;clear h hk;change Code.wp _ (Code.block _ _) _ _ _
 by_cases c1:K<2
 ·have d1:decide (K<2)=true:=decide_eq_true c1
  have h2:=H.out.newBlk (t:=3) (cs:=#[.int .i64 1,.int .i64 3,.int .i64 2]);have k0:0<=M%3:=by omega
  have k1:M%3<3:=by omega
  obtain⟨f,hf,q⟩:∃f:Nat,(f=1\/f=3\/f=2)/\(wr.alloc (.cells #[.int .i64 1,.int .i64 3,.int .i64 2] 3)).cell? ⟨wr.heap.size,(M%3).toNat,none⟩=some (.int .i64 (f:Int)):=by
   obtain e|e|e:M%3=0\/M%3=1\/M%3=2:=by omega
   ·rw[e];exact⟨1,.inl rfl,h2.blk.some_ rfl⟩
   ·rw[e];exact⟨3,.inr (.inl rfl),h2.blk.some_ rfl⟩
   ·rw[e];exact⟨2,.inr (.inr (rfl)),h2.blk.some_ rfl⟩
  have H2:=hid h2.drop;have HF:=hid hf;clear h2 hf;go_wp2_with fail;refine HK.out f (M / 3) ?_ ⟨by omega,by omega⟩ ?_ H2.out
  ·have:=HF.out;omega
  ·rcases HF.out with rfl|rfl|rfl
   all_goals exact⟨fun h=>by first|rfl|trivial|exact absurd h (by decide),fun h=>by first|rfl|trivial|exact absurd h (by decide)⟩
 ·have d1 : decide (K<2)=false:=decide_eq_false c1
  by_cases c2:K=2
  ·have d2:(K==2)=true:=beq_iff_eq.2 c2
   have d3:decide (K<7)=true:=decide_eq_true (by omega);have d4:decide (K<8)=true:=decide_eq_true (by omega);clear c2 c1
   by_cases cn:0<n
   ·have dn:decide ((n:Int) > 0)=true:=decide_eq_true (by omega)
    have dn':decide (0<n)=true:=decide_eq_true cn;have dn2:decide ((0:Int)<(n:Int))=true:=decide_eq_true (by omega);have h2:=H.out.newBlk (t:=3) (cs:=#[.int .i64 5,.int .i64 6,.int .i64 4]);have k0:0<=M%3:=by omega
    have k1:M%3<3:=by omega
    obtain⟨f,hf,q⟩:∃f:Nat,(f=5\/f=6\/f=4)/\(wr.alloc (.cells #[.int .i64 5,.int .i64 6,.int .i64 4] 3)).cell? ⟨wr.heap.size,(M%3).toNat,none⟩=some (.int .i64 (f:Int)):=by
     obtain e|e|e:M%3=0\/M%3=1\/M%3=2:=by omega
     ·rw[e];exact⟨5,.inl rfl,h2.blk.some_ rfl⟩
     ·rw[e];exact⟨6,.inr (.inl rfl),h2.blk.some_ rfl⟩
     ·rw[e];exact⟨4,.inr (.inr (rfl)),h2.blk.some_ rfl⟩
    have H2:=hid h2.drop;have HF:=hid hf;clear h2 hf;go_wp2_with fail;refine HK.out f (M / 3) ?_ ⟨by omega,by omega⟩ ?_ H2.out
    ·have:=HF.out;omega
    ·rcases HF.out with rfl|rfl|rfl
     all_goals exact⟨fun h=>by first|rfl|trivial|exact absurd h (by decide),fun h=>by first|rfl|trivial|exact absurd h (by decide)⟩
   ·have dn:decide ((n:Int) > 0)=false:=decide_eq_false (by omega)
    have dn':decide (0<n)=false:=decide_eq_false cn;have dn2:decide ((0:Int)<(n:Int))=false:=decide_eq_false (by omega)
    cases o
    ·skip
     have h2:=H.out.newBlk (t:=3) (cs:=#[.int .i64 12,.int .i64 13,.int .i64 12,.int .i64 13,.int .i64 16]);have k0:0<=M%5:=by omega
     have k1:M%5<5:=by omega
     obtain⟨f,hf,q⟩:∃f:Nat,(f=12\/f=13\/f=16)/\(wr.alloc (.cells #[.int .i64 12,.int .i64 13,.int .i64 12,.int .i64 13,.int .i64 16] 3)).cell? ⟨wr.heap.size,(M%5).toNat,none⟩=some (.int .i64 (f:Int)):=by
      obtain e|e|e|e|e:M%5=0\/M%5=1\/M%5=2\/M%5=3\/M%5=4:=by omega
      ·rw[e];exact⟨12,.inl rfl,h2.blk.some_ rfl⟩
      ·rw[e];exact⟨13,.inr (.inl rfl),h2.blk.some_ rfl⟩
      ·rw[e];exact⟨12,.inl rfl,h2.blk.some_ rfl⟩
      ·rw[e];exact⟨13,.inr (.inl rfl),h2.blk.some_ rfl⟩
      ·rw[e];exact⟨16,.inr (.inr (rfl)),h2.blk.some_ rfl⟩
     have H2:=hid h2.drop;have HF:=hid hf;clear h2 hf;go_wp2_with fail;refine HK.out f (M / 5) ?_ ⟨by omega,by omega⟩ ?_ H2.out
     ·have:=HF.out;omega
     ·rcases HF.out with rfl|rfl|rfl
      all_goals exact⟨fun h=>by first|rfl|trivial|exact absurd h (by decide),fun h=>by first|rfl|trivial|exact absurd h (by decide)⟩
    ·skip
     go_wp2_with fail;exact HK.out 10 M (by decide) (by omega) ⟨fun h=>by first|rfl|trivial|exact absurd h (by decide),fun h=>by first|rfl|trivial|exact absurd h (by decide)⟩ H.out
  ·have d2 : (K==2)=false:=beq_eq_false_iff_ne.2 c2
   cases o
   ·skip
    by_cases c3:K<7
    ·have d3:decide (K<7)=true:=decide_eq_true c3
     have h2:=H.out.newBlk (t:=3) (cs:=#[.int .i64 12,.int .i64 13,.int .i64 12,.int .i64 13,.int .i64 16]);have k0:0<=M%5:=by omega
     have k1:M%5<5:=by omega
     obtain⟨f,hf,q⟩:∃f:Nat,(f=12\/f=13\/f=16)/\(wr.alloc (.cells #[.int .i64 12,.int .i64 13,.int .i64 12,.int .i64 13,.int .i64 16] 3)).cell? ⟨wr.heap.size,(M%5).toNat,none⟩=some (.int .i64 (f:Int)):=by
      obtain e|e|e|e|e:M%5=0\/M%5=1\/M%5=2\/M%5=3\/M%5=4:=by omega
      ·rw[e];exact⟨12,.inl rfl,h2.blk.some_ rfl⟩
      ·rw[e];exact⟨13,.inr (.inl rfl),h2.blk.some_ rfl⟩
      ·rw[e];exact⟨12,.inl rfl,h2.blk.some_ rfl⟩
      ·rw[e];exact⟨13,.inr (.inl rfl),h2.blk.some_ rfl⟩
      ·rw[e];exact⟨16,.inr (.inr (rfl)),h2.blk.some_ rfl⟩
     have H2:=hid h2.drop;have HF:=hid hf;clear h2 hf;go_wp2_with fail;refine HK.out f (M / 5) ?_ ⟨by omega,by omega⟩ ?_ H2.out
     ·have:=HF.out;omega
     ·rcases HF.out with rfl|rfl|rfl
      all_goals exact⟨fun h=>by first|rfl|trivial|exact absurd h (by decide),fun h=>by first|rfl|trivial|exact absurd h (by decide)⟩
    ·have d3:decide (K<7)=false:=decide_eq_false c3
     by_cases c4:K=7
     ·have d4:(K==7)=true:=beq_iff_eq.2 c4
      clear c4;go_wp2_with fail;exact HK.out 17 M (by decide) (by omega) ⟨fun h=>by first|rfl|trivial|exact absurd h (by decide),fun h=>by first|rfl|trivial|exact absurd h (by decide)⟩ H.out
     ·have d4:(K==7)=false:=beq_eq_false_iff_ne.2 c4
      go_wp2_with fail;exact HK.out 7 M (by decide) (by omega) ⟨fun h=>by first|rfl|trivial|exact absurd h (by decide),fun h=>by first|rfl|trivial|exact absurd h (by decide)⟩ H.out
   ·skip
    by_cases c3:K<8
    ·have d3:decide (K<8)=true:=decide_eq_true c3
     go_wp2_with fail;exact HK.out 10 M (by decide) (by omega) ⟨fun h=>by first|rfl|trivial|exact absurd h (by decide),fun h=>by first|rfl|trivial|exact absurd h (by decide)⟩ H.out
    ·have d3 : decide (K<8)=false:=decide_eq_false c3
     by_cases c4:K<12
     ·have d4:decide (K<12)=true:=decide_eq_true c4
      go_wp2_with fail;exact HK.out 11 M (by decide) (by omega) ⟨fun h=>by first|rfl|trivial|exact absurd h (by decide),fun h=>by first|rfl|trivial|exact absurd h (by decide)⟩ H.out
     ·have d4:decide (K<12)=false:=decide_eq_false c4
      have h4:((K==12)=true)\/((K==12)=false/\(K==13)=true)\/((K==12)=false/\(K==13)=false/\(K==14)=true)\/((K==12)=false/\(K==13)=false/\(K==14)=false):=by
       by_cases x1:K=12
       ·exact .inl (beq_iff_eq.2 x1)
       ·by_cases x2:K=13
        ·exact .inr (.inl ⟨beq_eq_false_iff_ne.2 x1,beq_iff_eq.2 x2⟩)
        ·by_cases x3:K=14
         ·exact .inr (.inr (.inl ⟨beq_eq_false_iff_ne.2 x1,beq_eq_false_iff_ne.2 x2,beq_iff_eq.2 x3⟩))
         ·exact .inr (.inr (.inr ⟨beq_eq_false_iff_ne.2 x1,beq_eq_false_iff_ne.2 x2,beq_eq_false_iff_ne.2 x3⟩))
      rcases h4 with y1|⟨y1,y2⟩|⟨y1,y2,y3⟩|⟨y1,y2,y3⟩
      ·have y2:(K==13)=false:=by rw[beq_iff_eq.1 y1];rfl
       have y3:(K==14)=false:=by rw[beq_iff_eq.1 y1];rfl
       cases heap
       ·skip
        go_wp2_with fail;exact HK.out 8 M (by decide) (by omega) ⟨fun h=>by first|rfl|trivial|exact absurd h (by decide),fun h=>by first|rfl|trivial|exact absurd h (by decide)⟩ H.out
       ·skip
        go_wp2_with fail;exact HK.out 14 M (by decide) (by omega) ⟨fun h=>by first|rfl|trivial|exact absurd h (by decide),fun h=>by first|rfl|trivial|exact absurd h (by decide)⟩ H.out
      ·have y3:(K==14)=false:=by rw[beq_iff_eq.1 y2];rfl
       cases heap
       ·skip
        go_wp2_with fail;exact HK.out 8 M (by decide) (by omega) ⟨fun h=>by first|rfl|trivial|exact absurd h (by decide),fun h=>by first|rfl|trivial|exact absurd h (by decide)⟩ H.out
       ·skip
        go_wp2_with fail;exact HK.out 15 M (by decide) (by omega) ⟨fun h=>by first|rfl|trivial|exact absurd h (by decide),fun h=>by first|rfl|trivial|exact absurd h (by decide)⟩ H.out
      ·by_cases c5:M%4=0
       ·have d5:(M%4==0)=true:=beq_iff_eq.2 c5
        clear c5;go_wp2_with fail;exact HK.out 9 M (by decide) (by omega) ⟨fun h=>by first|rfl|trivial|exact absurd h (by decide),fun h=>by first|rfl|trivial|exact absurd h (by decide)⟩ H.out
       ·have d5:(M%4==0)=false:=beq_eq_false_iff_ne.2 c5
        go_wp2_with fail;exact HK.out 8 M (by decide) (by omega) ⟨fun h=>by first|rfl|trivial|exact absurd h (by decide),fun h=>by first|rfl|trivial|exact absurd h (by decide)⟩ H.out
      ·skip
       go_wp2_with fail;exact HK.out 8 M (by decide) (by omega) ⟨fun h=>by first|rfl|trivial|exact absurd h (by decide),fun h=>by first|rfl|trivial|exact absurd h (by decide)⟩ H.out
theorem Zir {wr:World} {A B:Option Addr} {n cp nj cj op:Nat} {p:List InsR} {js:List Int} {o:Bool} {n':Int} (hn13:n<13) (hjl:nj<=n) (HI:Hid (MkI p o js/\n=p.length/\nj=js.length)) (hop:op<18) (hn':0<=n'/\n'<18446744073709551616) (hpl:((plcG (op:Int)=1->o=true)/\(plcG (op:Int)=2->o=false))) (h:Hold w0 wr (Z0a (.slice A n cp) p*(queA 3 (.slice B nj cj) (js.map (Value.int .i64))*R))) {K1:Act->World->Prop} {Q1:Exit->Act->World->Prop}
  {v0 v1 v2 v3 v4 v5 v6 v7 v8 v12 v14 v16 v17 v18 v19 v20 v21 v22 v23 v24 v25 v26 v27 v28 v29 v30 v31 v32 v33 v34 v35 v36 v37 v38 v39 v40 v41 v42 v43 v44 v45 v46 v47 v48 v49 v50 v51 v52 v53 v54 v55 v56 v57 v58 v59 v60 v61 v62 v63 v64 v65 v66 v67 v68 v69 v70 v71 v72 v73 v74 v75 v76 v77 v78 v79 v80 v81 v82 v83 v84 v85 v86 v87 v88 v89 v90 v91 v92 v93 v94 v95 v96 v97 v98 v99 v100 v101 v102 v103 v104 v105 v106 v107 v108 v109 v110 v111 v112 v113 v114 v115 v116 v117 v118 v119 v120 v121 v122 v123 v124 v125 v126 v127 v128 v129 v130 v131 v132 v133 v134 v135 v136 v137 v138 v139 v140 v141 v142 v143 v144 v145 v146 v147 v148 v149 v150 v151 v152 v153 v154 v155 v156 v157 v158 v159 v160 v161 v162 v163 v164 v165 v166 v167 v168 v169 v170 v171 v172 v173 v174 v175 v176 v177 v178 v179 v180 v181 v182 v183 v184 v185 v186 v187 v188 v189 v190:Value}
  (hk:∀⦃u16 u121 u122 u123 u124 u125 u126 u127 u128 u129 u130 u131 u132 u133 u134 u135 u136 u137 u138 u139 u140 u141 u142 u143 u144 u145 u146 u147 u148 u149 u150 u151 u152 u153 u154 u155 u156 u157 x9 x10 x11:Value⦄ ⦃w':World⦄,MkR w0 R x9 x10 x11 w'->K1 ⟨#[v0,v1,v2,v3,v4,v5,v6,v7,v8,x9,x10,x11,v12,.int .u64 n',v14,.int .i64 (op:Int),u16,v17,v18,v19,v20,v21,v22,v23,v24,v25,v26,v27,v28,v29,v30,v31,v32,v33,v34,v35,v36,v37,v38,v39,v40,v41,v42,v43,v44,v45,v46,v47,v48,v49,v50,v51,v52,v53,v54,v55,v56,v57,v58,v59,v60,v61,v62,v63,v64,v65,v66,v67,v68,v69,v70,v71,v72,v73,v74,v75,v76,v77,v78,v79,v80,v81,v82,v83,v84,v85,v86,v87,v88,v89,v90,v91,v92,v93,v94,v95,v96,v97,v98,v99,v100,v101,v102,v103,v104,v105,v106,v107,v108,v109,v110,v111,v112,v113,v114,v115,v116,v117,v118,v119,v120,u121,u122,u123,u124,u125,u126,u127,u128,u129,u130,u131,u132,u133,u134,u135,u136,u137,u138,u139,u140,u141,u142,u143,u144,u145,u146,u147,u148,u149,u150,u151,u152,u153,u154,u155,u156,u157,v158,v159,v160,v161,v162,v163,v164,v165,v166,v167,v168,v169,v170,v171,v172,v173,v174,v175,v176,v177,v178,v179,v180,v181,v182,v183,v184,v185,v186,v187,v188,v189,v190],[]⟩ w') :
  Code.wp Tryz.prog (Zim [true,true,true,true,false,true,false,false,true,false,false,true,true,true,true,true] Tryz.f25) (Exit.inBlock 1 (Exit.then K1 Q1)) ⟨#[v0,v1,v2,v3,v4,v5,v6,v7,v8,.slice A n cp,.bool o,.slice B nj cj,v12,.int .u64 n',v14,.int .i64 (op:Int),v16,v17,v18,v19,v20,v21,v22,v23,v24,v25,v26,v27,v28,v29,v30,v31,v32,v33,v34,v35,v36,v37,v38,v39,v40,v41,v42,v43,v44,v45,v46,v47,v48,v49,v50,v51,v52,v53,v54,v55,v56,v57,v58,v59,v60,v61,v62,v63,v64,v65,v66,v67,v68,v69,v70,v71,v72,v73,v74,v75,v76,v77,v78,v79,v80,v81,v82,v83,v84,v85,v86,v87,v88,v89,v90,v91,v92,v93,v94,v95,v96,v97,v98,v99,v100,v101,v102,v103,v104,v105,v106,v107,v108,v109,v110,v111,v112,v113,v114,v115,v116,v117,v118,v119,v120,v121,v122,v123,v124,v125,v126,v127,v128,v129,v130,v131,v132,v133,v134,v135,v136,v137,v138,v139,v140,v141,v142,v143,v144,v145,v146,v147,v148,v149,v150,v151,v152,v153,v154,v155,v156,v157,v158,v159,v160,v161,v162,v163,v164,v165,v166,v167,v168,v169,v170,v171,v172,v173,v174,v175,v176,v177,v178,v179,v180,v181,v182,v183,v184,v185,v186,v187,v188,v189,v190],[]⟩ wr:=by
 have HK:=hid hk;clear hk;change Code.wp _ (Code.seq _ _) _ _ _;have hQ:=hid (Zg9 hop hn' h);have HPL:=hid hpl;clear h hpl;go_wp2_with fail;refine hQ.out.mono ?_;rintro e w2 ⟨x,rfl,hxo,hxv,hxj,h2⟩;obtain⟨xo,xa,xb,xc,xi⟩:=x;dsimp only at hxo hxj;subst hxo;have H3:=hid (h2.newBlk (t:=28) (cs:=#[.int .i64 (op:Int),.int .i64 xa,.int .i64 xb,.int .i64 xc,.int .i64 xi]));have HXV:=hid (And.intro hxv hxj);clear h2 hQ hxv hxj;go_upto_region 36 with fail
 have h3:=H3.out;generalize hW:World.alloc _ _=W at h3 |-;generalize w2.heap.size=gi at h3 |-;clear hW H3;obtain⟨iI,hiI,iz0,iz1,iz2⟩:=Z6v;obtain⟨iP,hiP,zp0,zp1,zp2⟩:=Z6w;rcases(by omega:op=5\/op=6\/op=4\/op=7\/op=8\/(op≠4/\op≠5/\op≠6/\op≠7/\op≠8)) with rfl|rfl|rfl|rfl|rfl|hne
 ·skip
  have p1:W.cell? ⟨gi,1,none⟩=some (.int .i64 xa):=h3.blk.some_ (i:=1) rfl;have z1:=h3.blk.frozen 1;have H4:=hid (h3.Zlp 1 (.int .i64 (n'%4)));clear h3;go_upto_region 38 with fail
  have h3:Hold w0 _ (blkA 28 gi #[.int .i64 5,.int .i64 (n'%4),.int .i64 xb,.int .i64 xc,.int .i64 xi]*(Z0a (.slice A n cp) p*(queA 3 (.slice B nj cj) (js.map (Value.int .i64))*R))):=H4.out;generalize hW:World.setCell _ _ _=W4 at h3 |-;clear hW H4 p1 z1;have H5:=hid (show Hold w0 _ (queA 3 (.slice B nj cj) (js.map (Value.int .i64))*(blkA 28 gi #[.int .i64 5,.int .i64 (n'%4),.int .i64 xb,.int .i64 xc,.int .i64 xi]*(Z0a (.slice A n cp) p*R))) from h3.pk3 [2,0,1]);clear h3;go_upto_region 40 with(at_builtin;refine Z0r rfl _ _ 23 rfl iI (.int .i64 0) 8 Tryz.underlying23 hiI iz0 iz1 iz2 rfl (.int .i64 (n:Int)) _ rfl H5.out rfl rfl (by rw[List.length_map,<- HI.out.2.2];omega) (by decide) ?_;intro jv w5 h5)
  rw[show js.map (Value.int .i64)++[.int .i64 (n:Int)]=(js++[(n:Int)]).map (Value.int .i64) by simp] at h5;obtain⟨B2,cj2,rfl⟩:=h5.Zlu;rw[show ((js++[(n:Int)]).map (Value.int .i64)).length=js.length+1 by simp] at h5 |-;have h6:=h5.pk3 [1,2,0];clear h5 H5;have hb:=h6.blk;have H7:=hid (h6.drop);clear h6;go_wp2_with (first|(refine Z03 rfl 28 _ rfl gi _ _ rfl Tryz.isAgg28 _ Tryz.sizeOf28 hb rfl ?_)|(at_builtin;refine Z0s rfl _ _ 29 rfl 28 iP (.agg #[.int .i64 0,.int .i64 0,.int .i64 0,.int .i64 0,.int .i64 0]) 5 40 Tryz.underlying29 hiP zp0 zp1 zp2 rfl (by decide) (.slice A n cp) n (insL p) [.int .i64 5,.int .i64 (n'%4),.int .i64 xb,.int .i64 xc,.int .i64 xi] _ rfl (by have h9:=H7.out;unfold Z0a at h9;rw[<- HI.out.2.1] at h9;exact h9) _ rfl rfl rfl rfl (by omega) (by decide) ?_;intro A2 c2 w8 h8));obtain⟨hxv,hxj⟩:=HXV.out;obtain⟨A',B',cp',cj',p',o',js',e1,e2,e3,i1,i2,i3,i4⟩:=Z6u (x:=⟨5,(n'%4),xb,xc,xi⟩) (B2:=B2) (cj2:=cj2) (nj':=js.length+1) (o':=o) (js':=(js++[(n:Int)])) HI.out.1 HI.out.2.1 hn13 (by rw[<- HI.out.2.2];exact hjl) ⟨hxv.op,show 0<=n'%4/\n'%4<8 by omega,hxv.b,hxv.c,hxv.n,hxv.imm,hxv.fn,hxv.al⟩ HPL.out.1 HPL.out.2 (fun _=>(hxj rfl).1) rfl rfl (by simp) h8;exact HK.out ⟨A',B',cp',cj',p',o',js',e1,e2,e3,i1,i2,i3,i4⟩
 ·skip
  have p1:W.cell? ⟨gi,1,none⟩=some (.int .i64 xa):=h3.blk.some_ (i:=1) rfl;have z1:=h3.blk.frozen 1;have H4:=hid (h3.Zlp 1 (.int .i64 (n'%4)));clear h3;go_upto_region 38 with fail
  have h3:Hold w0 _ (blkA 28 gi #[.int .i64 6,.int .i64 (n'%4),.int .i64 xb,.int .i64 xc,.int .i64 xi]*(Z0a (.slice A n cp) p*(queA 3 (.slice B nj cj) (js.map (Value.int .i64))*R))):=H4.out;generalize hW:World.setCell _ _ _=W4 at h3 |-;clear hW H4 p1 z1;have H5:=hid (show Hold w0 _ (queA 3 (.slice B nj cj) (js.map (Value.int .i64))*(blkA 28 gi #[.int .i64 6,.int .i64 (n'%4),.int .i64 xb,.int .i64 xc,.int .i64 xi]*(Z0a (.slice A n cp) p*R))) from h3.pk3 [2,0,1]);clear h3;go_upto_region 40 with(at_builtin;refine Z0r rfl _ _ 23 rfl iI (.int .i64 0) 8 Tryz.underlying23 hiI iz0 iz1 iz2 rfl (.int .i64 (n:Int)) _ rfl H5.out rfl rfl (by rw[List.length_map,<- HI.out.2.2];omega) (by decide) ?_;intro jv w5 h5)
  rw[show js.map (Value.int .i64)++[.int .i64 (n:Int)]=(js++[(n:Int)]).map (Value.int .i64) by simp] at h5;obtain⟨B2,cj2,rfl⟩:=h5.Zlu;rw[show ((js++[(n:Int)]).map (Value.int .i64)).length=js.length+1 by simp] at h5 |-;have h6:=h5.pk3 [1,2,0];clear h5 H5;have hb:=h6.blk;have H7:=hid (h6.drop);clear h6;go_wp2_with (first|(refine Z03 rfl 28 _ rfl gi _ _ rfl Tryz.isAgg28 _ Tryz.sizeOf28 hb rfl ?_)|(at_builtin;refine Z0s rfl _ _ 29 rfl 28 iP (.agg #[.int .i64 0,.int .i64 0,.int .i64 0,.int .i64 0,.int .i64 0]) 5 40 Tryz.underlying29 hiP zp0 zp1 zp2 rfl (by decide) (.slice A n cp) n (insL p) [.int .i64 6,.int .i64 (n'%4),.int .i64 xb,.int .i64 xc,.int .i64 xi] _ rfl (by have h9:=H7.out;unfold Z0a at h9;rw[<- HI.out.2.1] at h9;exact h9) _ rfl rfl rfl rfl (by omega) (by decide) ?_;intro A2 c2 w8 h8));obtain⟨hxv,hxj⟩:=HXV.out;obtain⟨A',B',cp',cj',p',o',js',e1,e2,e3,i1,i2,i3,i4⟩:=Z6u (x:=⟨6,(n'%4),xb,xc,xi⟩) (B2:=B2) (cj2:=cj2) (nj':=js.length+1) (o':=o) (js':=(js++[(n:Int)])) HI.out.1 HI.out.2.1 hn13 (by rw[<- HI.out.2.2];exact hjl) ⟨hxv.op,show 0<=n'%4/\n'%4<8 by omega,hxv.b,hxv.c,hxv.n,hxv.imm,hxv.fn,hxv.al⟩ HPL.out.1 HPL.out.2 (fun _=>(hxj rfl).1) rfl rfl (by simp) h8;exact HK.out ⟨A',B',cp',cj',p',o',js',e1,e2,e3,i1,i2,i3,i4⟩
 ·skip
  have H5:=hid (show Hold w0 _ (queA 3 (.slice B nj cj) (js.map (Value.int .i64))*(blkA 28 gi #[.int .i64 4,.int .i64 xa,.int .i64 xb,.int .i64 xc,.int .i64 xi]*(Z0a (.slice A n cp) p*R))) from h3.pk3 [2,0,1]);clear h3;go_upto_region 40 with(at_builtin;refine Z0r rfl _ _ 23 rfl iI (.int .i64 0) 8 Tryz.underlying23 hiI iz0 iz1 iz2 rfl (.int .i64 (n:Int)) _ rfl H5.out rfl rfl (by rw[List.length_map,<- HI.out.2.2];omega) (by decide) ?_;intro jv w5 h5)
  rw[show js.map (Value.int .i64)++[.int .i64 (n:Int)]=(js++[(n:Int)]).map (Value.int .i64) by simp] at h5;obtain⟨B2,cj2,rfl⟩:=h5.Zlu;rw[show ((js++[(n:Int)]).map (Value.int .i64)).length=js.length+1 by simp] at h5 |-;have h6:=h5.pk3 [1,2,0];clear h5 H5;have hb:=h6.blk;have H7:=hid (h6.drop);clear h6;go_wp2_with (first|(refine Z03 rfl 28 _ rfl gi _ _ rfl Tryz.isAgg28 _ Tryz.sizeOf28 hb rfl ?_)|(at_builtin;refine Z0s rfl _ _ 29 rfl 28 iP (.agg #[.int .i64 0,.int .i64 0,.int .i64 0,.int .i64 0,.int .i64 0]) 5 40 Tryz.underlying29 hiP zp0 zp1 zp2 rfl (by decide) (.slice A n cp) n (insL p) [.int .i64 4,.int .i64 xa,.int .i64 xb,.int .i64 xc,.int .i64 xi] _ rfl (by have h9:=H7.out;unfold Z0a at h9;rw[<- HI.out.2.1] at h9;exact h9) _ rfl rfl rfl rfl (by omega) (by decide) ?_;intro A2 c2 w8 h8));obtain⟨hxv,hxj⟩:=HXV.out;obtain⟨A',B',cp',cj',p',o',js',e1,e2,e3,i1,i2,i3,i4⟩:=Z6u (x:=⟨4,xa,xb,xc,xi⟩) (B2:=B2) (cj2:=cj2) (nj':=js.length+1) (o':=o) (js':=(js++[(n:Int)])) HI.out.1 HI.out.2.1 hn13 (by rw[<- HI.out.2.2];exact hjl) hxv HPL.out.1 HPL.out.2 (fun _=>(hxj rfl).1) rfl rfl (by simp) h8;exact HK.out ⟨A',B',cp',cj',p',o',js',e1,e2,e3,i1,i2,i3,i4⟩
 ·skip
  have h6:=h3;clear h3;have hb:=h6.blk;have H7:=hid (h6.drop);clear h6;go_wp2_with (first|(refine Z03 rfl 28 _ rfl gi _ _ rfl Tryz.isAgg28 _ Tryz.sizeOf28 hb rfl ?_)|(at_builtin;refine Z0s rfl _ _ 29 rfl 28 iP (.agg #[.int .i64 0,.int .i64 0,.int .i64 0,.int .i64 0,.int .i64 0]) 5 40 Tryz.underlying29 hiP zp0 zp1 zp2 rfl (by decide) (.slice A n cp) n (insL p) [.int .i64 7,.int .i64 xa,.int .i64 xb,.int .i64 xc,.int .i64 xi] _ rfl (by have h9:=H7.out;unfold Z0a at h9;rw[<- HI.out.2.1] at h9;exact h9) _ rfl rfl rfl rfl (by omega) (by decide) ?_;intro A2 c2 w8 h8));obtain⟨hxv,hxj⟩:=HXV.out;obtain⟨A',B',cp',cj',p',o',js',e1,e2,e3,i1,i2,i3,i4⟩:=Z6u (x:=⟨7,xa,xb,xc,xi⟩) (B2:=B) (cj2:=cj) (nj':=nj) (o':=true) (js':=js) HI.out.1 HI.out.2.1 hn13 (by rw[<- HI.out.2.2];exact hjl) hxv HPL.out.1 HPL.out.2 (fun h=>(hxj h).1) rfl rfl HI.out.2.2 h8;exact HK.out ⟨A',B',cp',cj',p',o',js',e1,e2,e3,i1,i2,i3,i4⟩
 ·skip
  have h6:=h3;clear h3;have hb:=h6.blk;have H7:=hid (h6.drop);clear h6;go_wp2_with (first|(refine Z03 rfl 28 _ rfl gi _ _ rfl Tryz.isAgg28 _ Tryz.sizeOf28 hb rfl ?_)|(at_builtin;refine Z0s rfl _ _ 29 rfl 28 iP (.agg #[.int .i64 0,.int .i64 0,.int .i64 0,.int .i64 0,.int .i64 0]) 5 40 Tryz.underlying29 hiP zp0 zp1 zp2 rfl (by decide) (.slice A n cp) n (insL p) [.int .i64 8,.int .i64 xa,.int .i64 xb,.int .i64 xc,.int .i64 xi] _ rfl (by have h9:=H7.out;unfold Z0a at h9;rw[<- HI.out.2.1] at h9;exact h9) _ rfl rfl rfl rfl (by omega) (by decide) ?_;intro A2 c2 w8 h8));obtain⟨hxv,hxj⟩:=HXV.out;obtain⟨A',B',cp',cj',p',o',js',e1,e2,e3,i1,i2,i3,i4⟩:=Z6u (x:=⟨8,xa,xb,xc,xi⟩) (B2:=B) (cj2:=cj) (nj':=nj) (o':=false) (js':=js) HI.out.1 HI.out.2.1 hn13 (by rw[<- HI.out.2.2];exact hjl) hxv HPL.out.1 HPL.out.2 (fun h=>(hxj h).1) rfl rfl HI.out.2.2 h8;exact HK.out ⟨A',B',cp',cj',p',o',js',e1,e2,e3,i1,i2,i3,i4⟩
 ·have e4:((op:Int)==4)=false:=beq_eq_false_iff_ne.2 (by omega)
  have e5:((op:Int)==5)=false:=beq_eq_false_iff_ne.2 (by omega);have e6:((op:Int)==6)=false:=beq_eq_false_iff_ne.2 (by omega);have e7:((op:Int)==7)=false:=beq_eq_false_iff_ne.2 (by omega);have e8:((op:Int)==8)=false:=beq_eq_false_iff_ne.2 (by omega);have hneJ:Hid (¬isJ (op:Int)=true):=hid (by unfold isJ;rw[e4,e5,e6];simp);have hneO:Hid (o=if (op:Int)=7 then true else if (op:Int)=8 then false else o):=hid (by rw[if_neg (by omega),if_neg (by omega)]);clear hne;have h6:=h3;clear h3;have hb:=h6.blk;have H7:=hid (h6.drop);clear h6;go_wp2_with (first|(refine Z03 rfl 28 _ rfl gi _ _ rfl Tryz.isAgg28 _ Tryz.sizeOf28 hb rfl ?_)|(at_builtin;refine Z0s rfl _ _ 29 rfl 28 iP (.agg #[.int .i64 0,.int .i64 0,.int .i64 0,.int .i64 0,.int .i64 0]) 5 40 Tryz.underlying29 hiP zp0 zp1 zp2 rfl (by decide) (.slice A n cp) n (insL p) [.int .i64 (op:Int),.int .i64 xa,.int .i64 xb,.int .i64 xc,.int .i64 xi] _ rfl (by have h9:=H7.out;unfold Z0a at h9;rw[<- HI.out.2.1] at h9;exact h9) _ rfl rfl rfl rfl (by omega) (by decide) ?_;intro A2 c2 w8 h8));obtain⟨hxv,hxj⟩:=HXV.out;obtain⟨A',B',cp',cj',p',o',js',e1,e2,e3,i1,i2,i3,i4⟩:=Z6u (x:=⟨(op:Int),xa,xb,xc,xi⟩) (B2:=B) (cj2:=cj) (nj':=nj) (o':=o) (js':=js) HI.out.1 HI.out.2.1 hn13 (by rw[<- HI.out.2.2];exact hjl) hxv HPL.out.1 HPL.out.2 (fun h=>(hxj h).1) hneO.out (if_neg hneJ.out).symm HI.out.2.2 h8;exact HK.out ⟨A',B',cp',cj',p',o',js',e1,e2,e3,i1,i2,i3,i4⟩
theorem Ziq {wc:World} {A B:Option Addr} {cp cj:Nat} {p:List InsR} {js:List Int} {o:Bool} (hp13:p.length<=13) (hjl:js.length<=p.length) (hI:MkI p o js) (h:Hold w0 wc (Z0a (.slice A p.length cp) p*(queA 3 (.slice B js.length cj) (js.map (Value.int .i64))*R)))
  {v0 v1 v2 v3 v4 v5 v6 v7 v8 v12 v13 v14 v15 v16 v17 v18 v19 v20 v21 v22 v23 v24 v25 v26 v27 v28 v29 v30 v31 v32 v33 v34 v35 v36 v37 v38 v39 v40 v41 v42 v43 v44 v45 v46 v47 v48 v49 v50 v51 v52 v53 v54 v55 v56 v57 v58 v59 v60 v61 v62 v63 v64 v65 v66 v67 v68 v69 v70 v71 v72 v73 v74 v75 v76 v77 v78 v79 v80 v81 v82 v83 v84 v85 v86 v87 v88 v89 v90 v91 v92 v93 v94 v95 v96 v97 v98 v99 v100 v101 v102 v103 v104 v105 v106 v107 v108 v109 v110 v111 v112 v113 v114 v115 v116 v117 v118 v119 v120 v121 v122 v123 v124 v125 v126 v127 v128 v129 v130 v131 v132 v133 v134 v135 v136 v137 v138 v139 v140 v141 v142 v143 v144 v145 v146 v147 v148 v149 v150 v151 v152 v153 v154 v155 v156 v157 v158 v159 v160 v161 v162 v163 v164 v165 v166 v167 v168 v169 v170 v171 v172 v173 v174 v175 v176 v177 v178 v179 v180 v181 v182 v183 v184 v185 v186 v187 v188 v189 v190:Value} :
  Code.wp Tryz.prog (Zim [true,true,true,true,true] Tryz.f25) (bodyPost Tryz.prog Tryz.f25 fun e w'=>∃(A:Option Addr) (cp:Nat) (p:List InsR),e = .returned (.slice A p.length cp)/\p.length<=14/\ProgV p/\inT p p.length=false/\ProgJ p/\Hold w0 w' (Z0a (.slice A p.length cp) p*R)) ⟨#[v0,v1,v2,v3,v4,v5,v6,v7,v8,.slice A p.length cp,.bool o,.slice B js.length cj,v12,v13,v14,v15,v16,v17,v18,v19,v20,v21,v22,v23,v24,v25,v26,v27,v28,v29,v30,v31,v32,v33,v34,v35,v36,v37,v38,v39,v40,v41,v42,v43,v44,v45,v46,v47,v48,v49,v50,v51,v52,v53,v54,v55,v56,v57,v58,v59,v60,v61,v62,v63,v64,v65,v66,v67,v68,v69,v70,v71,v72,v73,v74,v75,v76,v77,v78,v79,v80,v81,v82,v83,v84,v85,v86,v87,v88,v89,v90,v91,v92,v93,v94,v95,v96,v97,v98,v99,v100,v101,v102,v103,v104,v105,v106,v107,v108,v109,v110,v111,v112,v113,v114,v115,v116,v117,v118,v119,v120,v121,v122,v123,v124,v125,v126,v127,v128,v129,v130,v131,v132,v133,v134,v135,v136,v137,v138,v139,v140,v141,v142,v143,v144,v145,v146,v147,v148,v149,v150,v151,v152,v153,v154,v155,v156,v157,v158,v159,v160,v161,v162,v163,v164,v165,v166,v167,v168,v169,v170,v171,v172,v173,v174,v175,v176,v177,v178,v179,v180,v181,v182,v183,v184,v185,v186,v187,v188,v189,v190],[]⟩ wc:=by
 change Code.wp _ (Code.seq _ _) _ _ _;obtain⟨iP,hiP,zp0,zp1,zp2⟩:=Z6w;have HI:=hid (And.intro hp13 (And.intro hjl hI));skip;go_upto_if 158 with fail
 go_cut [9] (fun v9 wx=>∃(A:Option Addr) (cp:Nat) (p':List InsR),v9 = .slice A p'.length cp/\p'.length<=14/\MkJ p' js/\Hold w0 wx (Z0a (.slice A p'.length cp) p'*(queA 3 (.slice B js.length cj) (js.map (Value.int .i64))*R)))
 case first =>
  have H:=hid h;clear h
  cases o with
  | true =>
   go_wp2_with (at_builtin;refine Z0s rfl _ _ 29 rfl 28 iP (.agg #[.int .i64 0,.int .i64 0,.int .i64 0,.int .i64 0,.int .i64 0]) 5 40 Tryz.underlying29 hiP zp0 zp1 zp2 rfl (by decide) (.slice A p.length cp) p.length (insL p) [.int .i64 8,.int .i64 0,.int .i64 0,.int .i64 0,.int .i64 0] _ rfl H.out _ rfl rfl rfl rfl (by omega) (by decide) ?_;intro A2 c2 w8 h8);go_meet
   case rel =>
    have hx:InsV ⟨8,0,0,0,0⟩:=InsV.of (o:=8) (by decide) rfl rfl rfl rfl (by decide) (by decide) (by decide);have hI2:=HI.out.2.2.push (by omega) hx (fun _=>rfl) (fun h=>absurd h (by decide)) (fun h=>absurd h (by decide));have hl:(p++[(⟨8,0,0,0,0⟩:InsR)]).length=p.length+1:=by rw[List.length_append];rfl
    refine⟨A2,c2,p++[⟨8,0,0,0,0⟩],by rw[hl],by rw[hl];omega,MkI.done hI2,?_⟩;rw[show insL p++[.int .i64 8,.int .i64 0,.int .i64 0,.int .i64 0,.int .i64 0]=insL (p++[⟨8,0,0,0,0⟩]) by simp[insL]] at h8;unfold Z0a;rw[hl];exact h8
  | false =>
   go_wp2_with fail;go_meet
   case rel=>exact⟨A,cp,p,rfl,by omega,MkI.done HI.out.2.2,H.out⟩
 case rest =>
  obtain⟨A,cp,p,rfl,hp14,hJ,h⟩:=hcut;obtain⟨n,hn⟩:∃n,n=p.length:=⟨_,rfl⟩;obtain⟨nj,hnj⟩:∃n,n=js.length:=⟨_,rfl⟩;have H:=hid h;have HJ:=hid hJ;have HN:=hid (And.intro hn hnj);have hn64:n<=14:=by omega
  have hnj13:nj<=13:=by have:=HI.out;omega
  rw[<- hn,<- hnj] at H |-;clear h hJ hn hnj HI hp14 hp13 hjl hI;go_wp2_with fail;go_loopw [17] (fun v17 wr=>∃(k:Nat) (p':List InsR),k<=nj/\v17 = .int .i64 (k:Int)/\p'.length=n/\MkJ p' js/\Hold w0 wr (Z0a (.slice A n cp) p'*(queA 3 (.slice B nj cj) (js.map (Value.int .i64))*R))) (fun v _=>nj - (intOf v).toNat)
  case atStart=>exact⟨0,p,Nat.zero_le _,rfl,HN.out.1.symm,HJ.out,H.out⟩
  case round =>
   clear H HJ;obtain⟨k,p',hk,rfl,hpl,hJ,h⟩:=hrel;have HJ:=hid hJ;have HPL:=hid hpl;clear hJ hpl
   by_cases hlt:k<nj
   ·have e1:decide ((k:Int)<(nj:Int))=true:=decide_eq_true (by omega)
    have e1':decide (k<nj)=true:=decide_eq_true hlt;obtain⟨j,hj⟩:∃j,js[k]?=some j:=⟨_,List.getElem?_eq_getElem (by rw[<- HN.out.2];exact hlt)⟩;obtain⟨hj0,i,hi,hjj⟩:=HJ.out.j j (List.mem_of_getElem? hj);obtain⟨jn,rfl⟩:∃jn:Nat,j=(jn:Int):=⟨j.toNat,by omega⟩;rw[Int.toNat_natCast] at hi;have hjl:=(List.getElem?_eq_some_iff.1 hi).1;have h':Hold w0 wr (Z0a (.slice A p'.length cp) p'*(queA 3 (.slice B nj cj) (js.map (Value.int .i64))*R)):=by rw[HPL.out];exact h
    obtain⟨gc,rfl,hcap,-⟩:=h'.codeAt hi;obtain⟨q3,q4,q5,q6,q7⟩:=h'.code hi;obtain⟨ad,rfl⟩:∃ad,B=some ad:=by
     obtain⟨fp,hp⟩:=h'.swap.get;obtain⟨_,_,_,b,h4,_⟩:=queReads hp;obtain⟨ad,hA,_,_⟩:=h4.cellAt (k:=k) (by omega);exact⟨ad,hA⟩
    have qj:wr.cell? (ad.add k)=some (.int .i64 (jn:Int)):=h'.swap.queAt (by rw[List.getElem?_map,hj];rfl);obtain⟨z1,hset⟩:=h'.codeSet hi 1;have hset2:Hold w0 (wr.setCell ⟨gc,jn*5+4,none⟩ (.int .i64 1)) (Z0a (.slice (some ⟨gc,0,none⟩) n cp) (p'.set jn {i with imm:=1})*(queA 3 (.slice (some ad) nj cj) (js.map (Value.int .i64))*R)):=by rw[List.length_set,HPL.out] at hset;exact hset
    have hck:=Zfu hset (HJ.out.v.set hi hjj (.inr rfl)) (by rw[List.length_set,Z3s (Z5z hi 1)];exact HJ.out.f);rw[List.length_set,HPL.out] at hck;rw[HPL.out] at hcap;have HCK:=hid hck;have n0:(0:Int)<=(jn:Int):=by omega
    have n1:(jn:Int)<(n:Int):=by rw[<- HPL.out];omega
    have n2:jn<n:=by rw[<- HPL.out];exact hjl
    have HI:=hid (And.intro hi hjj);have HJK:=hid hj;clear h h' q3 q4 q5 q6 hset hset2 hck hj hj0 hi hjj hjl;go_wp2_with fail;refine HCK.out.mono ?_;rintro e w5 ⟨a,b,rfl,hb,h5⟩;clear HCK q7 z1 qj;have hi2:(p'.set jn {i with imm:=1})[jn]?=some {i with imm:=1}:=List.getElem?_set_self (List.getElem?_eq_some_iff.1 HI.out.1).1
    by_cases hb0:b=0
    ·have e2:(b != 0)=false:=by rw[hb0];rfl
     have HJ2:=hid (HJ.out.set HI.out.1 HI.out.2 (.inr rfl) (hb hb0));have H5:=hid h5;clear hb0 hb h5 hi2;go_wp2_with fail;go_roundw
     case rel=>exact⟨k+1,p'.set jn {i with imm:=1},by omega,by go_num,by rw[List.length_set];exact HPL.out,HJ2.out,H5.out⟩
     case measure=>simp[intOf];omega
    ·have e2:(b != 0)=true:=bne_iff_ne.2 hb0
     have h5':Hold w0 w5 (Z0a (.slice (some ⟨gc,0,none⟩) (p'.set jn {i with imm:=1}).length cp) (p'.set jn {i with imm:=1})*(queA 3 (.slice (some ad) nj cj) (js.map (Value.int .i64))*R)):=by rw[List.length_set,HPL.out];exact h5
     obtain⟨q3,q4,q5,q6,q7⟩:=h5'.code hi2;have qj:w5.cell? (ad.add k)=some (.int .i64 (jn:Int)):=h5'.swap.queAt (by rw[List.getElem?_map,HJK.out];rfl);obtain⟨z1,hset⟩:=h5'.codeSet hi2 0;rw[List.set_set] at hset;have H6:Hid (Hold w0 (w5.setCell ⟨gc,jn*5+4,none⟩ (.int .i64 0)) (Z0a (.slice (some ⟨gc,0,none⟩) n cp) (p'.set jn {i with imm:=0})*(queA 3 (.slice (some ad) nj cj) (js.map (Value.int .i64))*R))):=hid (by rw[List.length_set,HPL.out] at hset;exact hset);have HJ2:=hid (HJ.out.set HI.out.1 HI.out.2 (.inl rfl) (HJ.out.g.set0 HI.out.1 HI.out.2));clear hb0 hb h5 h5' hi2 hset q3 q4 q5 q6;go_wp2_with fail;go_roundw
     case rel=>exact⟨k+1,p'.set jn {i with imm:=0},by omega,by go_num,by rw[List.length_set];exact HPL.out,HJ2.out,H6.out⟩
     case measure=>simp[intOf];omega
   ·obtain rfl:k=nj:=by omega
    have e1:decide ((k:Int)<(k:Int))=false:=decide_eq_false (by omega);have H:=hid h;clear h;go_wp2_with fail;go_ret;exact⟨A,cp,p',by rw[HPL.out];rfl,by rw[HPL.out];exact hn64,HJ.out.v,HJ.out.f,HJ.out.g,by have h9:=H.out.swap.drop;rw[<- HPL.out] at h9;exact h9⟩
theorem Zis {Al:Option Addr} {m cl:Nat} {heap:Bool} (h:Hold w0 w R) (hm:m<=1000) (hl:∀j,j<m->∃ad z,Al=some ad/\w0.cell? (ad.add j)=some (.int .i64 z)) :
  Calls Tryz.prog 25 #[.slice Al m cl,.int .i64 14,.bool heap,.bool true] w fun e w'=>∃(A:Option Addr) (cp:Nat) (p:List InsR),e = .returned (.slice A p.length cp)/\p.length<=14/\ProgV p/\inT p p.length=false/\ProgJ p/\Hold w0 w' (Z0a (.slice A p.length cp) p*R):=by
 have HL:=hid hl;have H:=hid h;clear h hl;go_enter Tryz.func25,Tryz.ntmps25;go_upto_block 0 with fail
 go_cut [9,10,11] (fun v9 v10 v11 wx=>∃(A B:Option Addr) (cp cj:Nat) (p:List InsR) (o:Bool) (js:List Int),v9 = .slice A p.length cp/\v10 = .bool o/\v11 = .slice B js.length cj/\p.length<=13/\js.length<=p.length/\MkI p o js/\Hold w0 wx (Z0a (.slice A p.length cp) p*(queA 3 (.slice B js.length cj) (js.map (Value.int .i64))*R)))
 case first =>
  go_wp2_with fail;go_loopw [9,10,11,12] (fun v9 v10 v11 v12 wr=>∃(k:Nat) (A B:Option Addr) (cp cj:Nat) (p:List InsR) (o:Bool) (js:List Int),k<=m/\v12 = .int .i64 (k:Int)/\v10 = .bool o/\v9 = .slice A p.length cp/\v11 = .slice B js.length cj/\p.length<=13/\js.length<=p.length/\MkI p o js/\Hold w0 wr (Z0a (.slice A p.length cp) p*(queA 3 (.slice B js.length cj) (js.map (Value.int .i64))*R))) (fun _ _ _ v _=>m - (intOf v).toNat)
  case atStart=>exact⟨0,none,none,0,0,[],false,[],Nat.zero_le _,rfl,rfl,rfl,rfl,Nat.zero_le _,Nat.le_refl _,MkI.nil,((H.out.nilQue 3).nilRowS 28 5)⟩
  case round =>
   clear H;obtain⟨k,A,B,cp,cj,p,o,js,hk,rfl,rfl,rfl,rfl,hp13,hjl,hI,h⟩:=hrel;obtain⟨n,hn⟩:∃n,n=p.length:=⟨_,rfl⟩;obtain⟨nj,hnj⟩:∃n,n=js.length:=⟨_,rfl⟩;have HI:=hid (And.intro hI (And.intro hn hnj));have H:=hid h;rw[<- hn] at hp13 hjl H |-;rw[<- hnj] at hjl H |-;clear h hI hn hnj
   by_cases hlt:k<m/\n<13
   ·have e1:decide ((k:Int)<(m:Int))=true:=decide_eq_true (by omega)
    have e1':decide (k<m)=true:=decide_eq_true hlt.1;have e2:decide ((n:Int)<13)=true:=decide_eq_true (by omega);have e2':decide (n<13)=true:=decide_eq_true hlt.2;obtain⟨ad,z,rfl,hz⟩:=HL.out k hlt.1;have q:wr.cell? (ad.add k)=some (.int .i64 z):=H.out.old hz;go_upto_region 8 with fail
    have hN:0<=IntKind.u64.wrap z/\IntKind.u64.wrap z<18446744073709551616:=by rw[IntKind.wrap_u64];omega
    generalize IntKind.u64.wrap z=N at hN |-;go_upto_block 2 with fail
    have hK:0<=N%16/\N%16<16:=by omega
    have hM:0<=N / 16/\N / 16<1152921504606846976:=by omega
    generalize N%16=K at hK |-;generalize N / 16=M at hM |-
    rename_i a1
    refine Ze1 hK hM H.out ?_
    intros
    rename_i op n' hop hn' hpl h
    refine a1 _ _ ?_
    rename_i a2
    refine Zir hlt.2 hjl HI hop hn' hpl h ?_
    intros
    rename_i hR
    obtain⟨A',B',cp',cj',p',o',js',rfl,rfl,rfl,i1,i2,i3,i4⟩:=hR;have H5:=hid i4;have I3:=hid i3;clear i3 i4 h hpl H HI;go_wp2_with fail;go_roundw
    case rel=>exact⟨k+1,A',B',cp',cj',p',o',js',by omega,by go_num,rfl,rfl,rfl,i1,i2,I3.out,H5.out⟩
    case measure=>simp[intOf];omega
   ·have hx:decide ((k:Int)<(m:Int))=false/\decide (k<m)=false\/decide ((k:Int)<(m:Int))=true/\decide (k<m)=true/\decide ((n:Int)<13)=false/\decide (n<13)=false:=by
     by_cases h1:k<m
     ·exact .inr ⟨decide_eq_true (by omega),decide_eq_true h1,decide_eq_false (by omega),decide_eq_false (by omega)⟩
     ·exact .inl ⟨decide_eq_false (by omega),decide_eq_false h1⟩
    clear hlt;rcases hx with⟨e1,e1'⟩|⟨e1,e1',e2,e2'⟩
    all_goals (
     go_wp2_with fail;go_meet
     case rel=>exact⟨A,B,cp,cj,p,o,js,by rw[HI.out.2.1],rfl,by rw[HI.out.2.2],by rw[<- HI.out.2.1];exact hp13,by rw[<- HI.out.2.1,<- HI.out.2.2];exact hjl,HI.out.1,by have h9:=H.out;rw[HI.out.2.2,HI.out.2.1] at h9;exact h9⟩)
 case rest =>
  rename_i a1
  refine a1 _ _ ?_;obtain⟨A,B,cp,cj,p,o,js,rfl,rfl,rfl,hp13,hjl,hI,h⟩:=hcut;exact Ziq hp13 hjl hI h
end
end Go.Proofs.YtmlfangeanmmeaaGreatDoor
