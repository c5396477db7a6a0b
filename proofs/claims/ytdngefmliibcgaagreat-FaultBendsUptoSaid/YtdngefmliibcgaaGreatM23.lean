/- Part of a proof: F34. -/
import Derived.Test.YtdngefmliibcgaaGreatM18
import Derived.Test.YtdngefmliibcgaaGreatM21
set_option linter.all false
set_option maxRecDepth 20000
set_option maxHeartbeats 20000000
namespace Go.Proofs.YtdngefmliibcgaaGreat
open Go Go.Abs Go.Abs.fJ
theorem Gj.fits(s:State)(R T:Nat):(V.agg [.bJ R 0 s.regions.length,.bJ T 0 s.threads.length]).fits 2=true:=rfl
def ahk(p:Prog)(m:aJ)(o:j6)(l:ga)(js:List Int)(rc:List Entry):List V:=[.sl false (p.code.map Instr.enc),.sl false (p.aq.map (V.int .i64)),.sl false (p.data.map bE),.sl false (m.layout.aE.map (V.int .i64)),.int .u16 m.layout.key,.sl false (m.memory.cells.map Cell.enc),.sl false (m.memory.lines.map bT.enc),.bJ 7 0 4,
   .sl false (o.clock.map (V.int .u16)),.sl false (o.random.map (V.int .u16)),.sl false (o.jx.map bE),.sl false (o.files.data.map dL),.sl false (o.files.opens.map yi.enc),.sl false (o.fm.map Output.enc),.sl false (l.owner.map (V.int .i64)),.sl false (l.queue.map nk),.sl false (rc.map Entry.enc),.sl false (js.map (V.int .i64))]
structure MI (dl:List Int) (p:Prog) (m:aJ) (d:Int) (o:j6) (l:ga) (js:List Int) (rc:List Entry) (R T:Nat) (ri vi:Nat→Nat) (kt:Int) (s:State) (S:St):Prop where
 f:S.f 0= .ptr 0 0 0∧S.f 2= .ptr 1 0 0∧S.f 3= .ptr 2 0 0∧S.f 4= .ptr 5 0 0∧S.f 5= .ptr 10 0 0∧S.f 6= .ptr 19 0 0
 h0:S.h 0=some ⟨2,[.agg [.sl false (dl.map (V.int .i64)),.int .i64 kt]],true⟩
 h:S.h 1=some ⟨3,[.agg [.sl true [],.sl true [],.sl true []]],true⟩∧S.h 2=some ⟨5,[.agg [.sl true [],.int .u16 0,.sl true [],.sl true [],.sl true []]],true⟩∧S.h 5=some ⟨18,[.agg (ahk p m o l js rc)],true⟩∧S.h 7=some ⟨8,m.threads.map Thread.enc,false⟩∧S.h 10=some ⟨5,[.agg [.sl false (m.layout.aE.map (V.int .i64)),.int .u16 m.layout.key,.sl false (m.memory.cells.map Cell.enc),.sl false (m.memory.lines.map bT.enc),.bJ 7 0 4]],true⟩∧S.h 19=some ⟨2,[.agg [.bJ R 0 s.regions.length,.bJ T 0 4]],true⟩
 st:Gj S.h 36 S.n s R T ri vi
 g:yV p d s
 dk:iL dl kt
 n:36≤S.n
theorem MI.put {dl:List Int} {p:Prog} {m:aJ} {d:Int} {o:j6} {l:ga} {js:List Int} {rc:List Entry} {R T:Nat} {ri vi:Nat→Nat} {kt:Int} {s:State} {S:St} (H:MI dl p m d o l js rc R T ri vi kt s S) {S':St} {Pc:Int} {s':State}
  (hf:S'.f 0=S.f 0∧S'.f 2=S.f 2∧S'.f 3=S.f 3∧S'.f 4=S.f 4∧S'.f 5=S.f 5∧S'.f 6=S.f 6) (h0:S'.h 0=some ⟨2,[.agg [.sl false (dl.map (V.int .i64)),.int .i64 Pc]],true⟩) (hl: ∀j,1≤j→j<36→S'.h j=S.h j)
  (st:Gj S'.h 36 S'.n s' R T ri vi) (hr:s'.regions.length=s.regions.length) (g:yV p d s') (dk:iL dl Pc) (hn:S.n≤S'.n):MI dl p m d o l js rc R T ri vi Pc s' S':=by
 obtain⟨⟨f0,f2,f3,f4,f5,f6⟩,_,⟨g1,g2,g5,g7,g10,g19⟩,_,_,_,n⟩:=H;obtain⟨a0,a2,a3,a4,a5,a6⟩:=hf;refine⟨⟨a0.trans f0,a2.trans f2,a3.trans f3,a4.trans f4,a5.trans f5,a6.trans f6⟩,h0,⟨?_,?_,?_,?_,?_,?_⟩,st,g,dk,by omega⟩
 ·rw[hl 1 (by omega) (by omega),g1]
 ·rw[hl 2 (by omega) (by omega),g2]
 ·rw[hl 5 (by omega) (by omega),g5]
 ·rw[hl 7 (by omega) (by omega),g7]
 ·rw[hl 10 (by omega) (by omega),g10]
 ·rw[hl 19 (by omega) (by omega),g19,hr]
theorem MI.len{dl:List Int}{p:Prog}{m:aJ}{d:Int}{o:j6}{l:ga}{js:List Int}{rc:List Entry}{R T:Nat}{ri vi:Nat→Nat}{kt:Int}{s:State}{S:St}(H:MI dl p m d o l js rc R T ri vi kt s S):s.regions.length=p.aq.length∧s.threads.length=4:=⟨H.g.p.regions,H.g.p.threads⟩
theorem MI.same {dl:List Int} {p:Prog} {m:aJ} {d:Int} {o:j6} {l:ga} {js:List Int} {rc:List Entry} {R T:Nat} {ri vi:Nat→Nat} {kt:Int} {s:State} {S:St} (H:MI dl p m d o l js rc R T ri vi kt s S) {S':St} {Pc:Int}
  (hf:S'.f 0=S.f 0∧S'.f 2=S.f 2∧S'.f 3=S.f 3∧S'.f 4=S.f 4∧S'.f 5=S.f 5∧S'.f 6=S.f 6) (h0:S'.h 0=some ⟨2,[.agg [.sl false (dl.map (V.int .i64)),.int .i64 Pc]],true⟩) (hl: ∀j,1≤j→S'.h j=S.h j)
  (dk:iL dl Pc) (hn:S.n≤S'.n):MI dl p m d o l js rc R T ri vi Pc s S':=
 H.put hf h0 (fun j a _=>hl j a) (H.st.mono hn fun j a _=>hl j (by omega)) rfl H.g dk hn
theorem MI.KV {dl:List Int} {p:Prog} {m:aJ} {d:Int} {o:j6} {l:ga} {js:List Int} {rc:List Entry} {R T:Nat} {ri vi:Nat→Nat} {kt:Int} {s:State} {S:St} (H:MI dl p m d o l js rc R T ri vi kt s S) {S':St} {Pc:Int} {i:Nat} (hi:i<s.regions.length) {c:Canon} {j:Nat}
  (hf:S'.f 0=S.f 0∧S'.f 2=S.f 2∧S'.f 3=S.f 3∧S'.f 4=S.f 4∧S'.f 5=S.f 5∧S'.f 6=S.f 6) (h0:S'.h 0=some ⟨2,[.agg [.sl false (dl.map (V.int .i64)),.int .i64 Pc]],true⟩)
  (hw:S'.h (ri i)=some ⟨4,((s.regions[i]).set j c).map Canon.enc,false⟩) (hl: ∀j,1≤j→ ¬j=ri i→S'.h j=S.h j) (hc:sj c∧fN c=true)
  (dk:iL dl Pc) (hn:S.n≤S'.n):MI dl p m d o l js rc R T ri vi Pc (o5 s i ((s.regions[i]).set j c)) S':=by
 have q:=H.st.lr i hi;refine H.put hf h0 (fun j a b=>hl j a (by omega)) (H.st.o5 hn hi (by simp) hw fun j a b e=>hl j (by omega) e) (by simp[o5]) (H.g.o5 hi hc.1 hc.2) dk hn
theorem cp.one{p:Prog}{d:Int}{m:aJ}(h:cp p d m)(hd:d≤1099511627776){t:Nat}(ht:t<4){n:Int}(hn:1≤n∧n≤64):OJ p m t n=((cY p m t n).1,(cY p m t n).2,0):=by
 unfold OJ;rw[if_pos ⟨(h.mono hd).ok,by omega,hn.1,hn.2⟩,Int.toNat_natCast]
end Go.Proofs.YtdngefmliibcgaaGreat
