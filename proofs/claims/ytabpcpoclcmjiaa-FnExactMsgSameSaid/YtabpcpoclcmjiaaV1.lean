/- The data of the seat as Lean's structs, and how they lie in memory. No condition. -/
import Derived.Test.YtabpcpoclcmjiaaE30
import Derived.Test.YtabpcpoclcmjiaaV0
namespace Go.Ve
open Go.Proofs Go.RowKit
set_option linter.unusedVariables false
set_option linter.unusedSimpArgs false
set_option maxRecDepth 10000
set_option maxHeartbeats 4000000
structure Pg where
  pool : Int
  no : Int
  deriving Inhabited
def toPg (p : Int × Int) : Pg := ⟨p.1, p.2⟩
def ofPg (x : Pg) : Int × Int := (x.pool, x.no)
def enPg : En Pg := En.iso ((En.int .i64).prod (En.int .i64)) ofPg toPg (fun _ => rfl)
@[go_sem] theorem av_Pg {τ : Nat} {x : Pg} : enPg.av τ x = .agg [.int .i64 x.pool, .int .i64 x.no] := rfl
@[go_sem] theorem cs_Pg {τ : Nat} {x : Pg} : enPg.cs τ x = [.int .i64 x.pool, .int .i64 x.no] := rfl
theorem tot_Pg {x : Pg} : enPg.tot x = 0 := by
  show enPg.tot x = _
  simp [enPg, En.iso, En.prod, ofPg, En.int, En.bool, En.str, En.strz, tot_list, sum_zero]
@[go_sem] theorem w_Pg : enPg.w = 2 := rfl
theorem eq_Pg {x y : Pg} : x = y ↔ x.pool = y.pool ∧ x.no = y.no := by
  cases x; cases y; simp
def okPg (x : Pg) : Prop := (Lit.int .i64 x.pool).wf = true ∧ (Lit.int .i64 x.no).wf = true
theorem fit_23 : FitE Try.prog 23 enPg := ⟨by simp only [go_sem], by simp only [go_sem], fun τ x => by simp [go_sem]⟩
theorem fitz_23 : FitZ Try.prog 23 enPg := ⟨by simp only [go_sem], by simp only [go_sem], by simp only [go_sem], by simp [go_sem], by simp only [go_sem], by simp [go_sem], by simp [go_sem], fun τ x => by simp [go_sem, setEl]⟩
theorem fit_24 : FitE Try.prog 24 enPg := ⟨by simp only [go_sem], by simp only [go_sem], fun τ x => by simp [go_sem]⟩
theorem fitz_24 : FitZ Try.prog 24 enPg := ⟨by simp only [go_sem], by simp only [go_sem], by simp only [go_sem], by simp [go_sem], by simp only [go_sem], by simp [go_sem], by simp [go_sem], fun τ x => by simp [go_sem, setEl]⟩
structure Ver where
  epoch : Int
  seq : Int
  deriving Inhabited
def toVer (p : Int × Int) : Ver := ⟨p.1, p.2⟩
def ofVer (x : Ver) : Int × Int := (x.epoch, x.seq)
def enVer : En Ver := En.iso ((En.int .i64).prod (En.int .i64)) ofVer toVer (fun _ => rfl)
@[go_sem] theorem av_Ver {τ : Nat} {x : Ver} : enVer.av τ x = .agg [.int .i64 x.epoch, .int .i64 x.seq] := rfl
@[go_sem] theorem cs_Ver {τ : Nat} {x : Ver} : enVer.cs τ x = [.int .i64 x.epoch, .int .i64 x.seq] := rfl
theorem tot_Ver {x : Ver} : enVer.tot x = 0 := by
  show enVer.tot x = _
  simp [enVer, En.iso, En.prod, ofVer, En.int, En.bool, En.str, En.strz, tot_list, sum_zero]
@[go_sem] theorem w_Ver : enVer.w = 2 := rfl
theorem eq_Ver {x y : Ver} : x = y ↔ x.epoch = y.epoch ∧ x.seq = y.seq := by
  cases x; cases y; simp
def okVer (x : Ver) : Prop := (Lit.int .i64 x.epoch).wf = true ∧ (Lit.int .i64 x.seq).wf = true
theorem fit_48 : FitE Try.prog 48 enVer := ⟨by simp only [go_sem], by simp only [go_sem], fun τ x => by simp [go_sem]⟩
theorem fitz_48 : FitZ Try.prog 48 enVer := ⟨by simp only [go_sem], by simp only [go_sem], by simp only [go_sem], by simp [go_sem], by simp only [go_sem], by simp [go_sem], by simp [go_sem], fun τ x => by simp [go_sem, setEl]⟩
theorem fit_26 : FitE Try.prog 26 enVer := ⟨by simp only [go_sem], by simp only [go_sem], fun τ x => by simp [go_sem]⟩
theorem fitz_26 : FitZ Try.prog 26 enVer := ⟨by simp only [go_sem], by simp only [go_sem], by simp only [go_sem], by simp [go_sem], by simp only [go_sem], by simp [go_sem], by simp [go_sem], fun τ x => by simp [go_sem, setEl]⟩
structure Req where
  client : Int
  no : Int
  deriving Inhabited
def toReq (p : Int × Int) : Req := ⟨p.1, p.2⟩
def ofReq (x : Req) : Int × Int := (x.client, x.no)
def enReq : En Req := En.iso ((En.int .i64).prod (En.int .i64)) ofReq toReq (fun _ => rfl)
@[go_sem] theorem av_Req {τ : Nat} {x : Req} : enReq.av τ x = .agg [.int .i64 x.client, .int .i64 x.no] := rfl
@[go_sem] theorem cs_Req {τ : Nat} {x : Req} : enReq.cs τ x = [.int .i64 x.client, .int .i64 x.no] := rfl
theorem tot_Req {x : Req} : enReq.tot x = 0 := by
  show enReq.tot x = _
  simp [enReq, En.iso, En.prod, ofReq, En.int, En.bool, En.str, En.strz, tot_list, sum_zero]
@[go_sem] theorem w_Req : enReq.w = 2 := rfl
theorem eq_Req {x y : Req} : x = y ↔ x.client = y.client ∧ x.no = y.no := by
  cases x; cases y; simp
def okReq (x : Req) : Prop := (Lit.int .i64 x.client).wf = true ∧ (Lit.int .i64 x.no).wf = true
theorem fit_56 : FitE Try.prog 56 enReq := ⟨by simp only [go_sem], by simp only [go_sem], fun τ x => by simp [go_sem]⟩
theorem fitz_56 : FitZ Try.prog 56 enReq := ⟨by simp only [go_sem], by simp only [go_sem], by simp only [go_sem], by simp [go_sem], by simp only [go_sem], by simp [go_sem], by simp [go_sem], fun τ x => by simp [go_sem, setEl]⟩
theorem fit_67 : FitE Try.prog 67 enReq := ⟨by simp only [go_sem], by simp only [go_sem], fun τ x => by simp [go_sem]⟩
theorem fitz_67 : FitZ Try.prog 67 enReq := ⟨by simp only [go_sem], by simp only [go_sem], by simp only [go_sem], by simp [go_sem], by simp only [go_sem], by simp [go_sem], by simp [go_sem], fun τ x => by simp [go_sem, setEl]⟩
structure Head where
  name : ByteArray
  ver : Ver
  size : Int
  sum : Int
  deriving Inhabited
def toHead (p : ByteArray × Ver × Int × Int) : Head := ⟨p.1, p.2.1, p.2.2.1, p.2.2.2⟩
def ofHead (x : Head) : ByteArray × Ver × Int × Int := (x.name, (x.ver, (x.size, x.sum)))
def enHead : En Head := En.iso (En.strz.prod (enVer.prod ((En.int .i64).prod (En.int .i64)))) ofHead toHead (fun _ => rfl)
@[go_sem] theorem av_Head {τ : Nat} {x : Head} : enHead.av τ x = .agg [.str x.name, .int .i64 x.ver.epoch, .int .i64 x.ver.seq, .int .i64 x.size, .int .i64 x.sum] := rfl
@[go_sem] theorem cs_Head {τ : Nat} {x : Head} : enHead.cs τ x = [.str x.name, .int .i64 x.ver.epoch, .int .i64 x.ver.seq, .int .i64 x.size, .int .i64 x.sum] := rfl
theorem tot_Head {x : Head} : enHead.tot x = x.name.size := by
  show enHead.tot x = _
  simp [enHead, En.iso, En.prod, ofHead, En.int, En.bool, En.str, En.strz, tot_list, sum_zero, tot_Ver]
@[go_sem] theorem w_Head : enHead.w = 5 := rfl
theorem eq_Head {x y : Head} : x = y ↔ x.name = y.name ∧ x.ver = y.ver ∧ x.size = y.size ∧ x.sum = y.sum := by
  cases x; cases y; simp
def okHead (x : Head) : Prop := x.name.size ≤ 140737488351232 ∧ okVer x.ver ∧ (Lit.int .i64 x.size).wf = true ∧ (Lit.int .i64 x.sum).wf = true
def zzHead (x : Head) : Prop := x.name.size ≤ strB
theorem ok_zzHead {x : Head} (h : okHead x) : zzHead x := by
  simp only [okHead] at h
  simp only [zzHead, strB]
  exact h.1
theorem fit_125 : FitE Try.prog 125 enHead := ⟨by simp only [go_sem], by simp only [go_sem], fun τ x => by simp [go_sem]⟩
theorem fitz_125 : FitZ Try.prog 125 enHead := ⟨by simp only [go_sem], by simp only [go_sem], by simp only [go_sem], by simp [go_sem], by simp only [go_sem], by simp [go_sem], by simp [go_sem], fun τ x => by simp [go_sem, setEl]⟩
theorem fit_108 : FitE Try.prog 108 enHead := ⟨by simp only [go_sem], by simp only [go_sem], fun τ x => by simp [go_sem]⟩
theorem fitz_108 : FitZ Try.prog 108 enHead := ⟨by simp only [go_sem], by simp only [go_sem], by simp only [go_sem], by simp [go_sem], by simp only [go_sem], by simp [go_sem], by simp [go_sem], fun τ x => by simp [go_sem, setEl]⟩
structure Lst where
  client : Int
  no : Int
  ver : Ver
  deriving Inhabited
def toLst (p : Int × Int × Ver) : Lst := ⟨p.1, p.2.1, p.2.2⟩
def ofLst (x : Lst) : Int × Int × Ver := (x.client, (x.no, x.ver))
def enLst : En Lst := En.iso ((En.int .i64).prod ((En.int .i64).prod enVer)) ofLst toLst (fun _ => rfl)
@[go_sem] theorem av_Lst {τ : Nat} {x : Lst} : enLst.av τ x = .agg [.int .i64 x.client, .int .i64 x.no, .int .i64 x.ver.epoch, .int .i64 x.ver.seq] := rfl
@[go_sem] theorem cs_Lst {τ : Nat} {x : Lst} : enLst.cs τ x = [.int .i64 x.client, .int .i64 x.no, .int .i64 x.ver.epoch, .int .i64 x.ver.seq] := rfl
theorem tot_Lst {x : Lst} : enLst.tot x = 0 := by
  show enLst.tot x = _
  simp [enLst, En.iso, En.prod, ofLst, En.int, En.bool, En.str, En.strz, tot_list, sum_zero, tot_Ver]
@[go_sem] theorem w_Lst : enLst.w = 4 := rfl
theorem eq_Lst {x y : Lst} : x = y ↔ x.client = y.client ∧ x.no = y.no ∧ x.ver = y.ver := by
  cases x; cases y; simp
def okLst (x : Lst) : Prop := (Lit.int .i64 x.client).wf = true ∧ (Lit.int .i64 x.no).wf = true ∧ okVer x.ver
theorem fit_129 : FitE Try.prog 129 enLst := ⟨by simp only [go_sem], by simp only [go_sem], fun τ x => by simp [go_sem]⟩
theorem fitz_129 : FitZ Try.prog 129 enLst := ⟨by simp only [go_sem], by simp only [go_sem], by simp only [go_sem], by simp [go_sem], by simp only [go_sem], by simp [go_sem], by simp [go_sem], fun τ x => by simp [go_sem, setEl]⟩
theorem fit_111 : FitE Try.prog 111 enLst := ⟨by simp only [go_sem], by simp only [go_sem], fun τ x => by simp [go_sem]⟩
theorem fitz_111 : FitZ Try.prog 111 enLst := ⟨by simp only [go_sem], by simp only [go_sem], by simp only [go_sem], by simp [go_sem], by simp only [go_sem], by simp [go_sem], by simp [go_sem], fun τ x => by simp [go_sem, setEl]⟩
structure Entry where
  ver : Ver
  prior : Ver
  name : ByteArray
  gone : Bool
  size : Int
  sum : Int
  req : Req
  deriving Inhabited
def toEntry (p : Ver × Ver × ByteArray × Bool × Int × Int × Req) : Entry := ⟨p.1, p.2.1, p.2.2.1, p.2.2.2.1, p.2.2.2.2.1, p.2.2.2.2.2.1, p.2.2.2.2.2.2⟩
def ofEntry (x : Entry) : Ver × Ver × ByteArray × Bool × Int × Int × Req := (x.ver, (x.prior, (x.name, (x.gone, (x.size, (x.sum, x.req))))))
def enEntry : En Entry := En.iso (enVer.prod (enVer.prod (En.strz.prod (En.bool.prod ((En.int .i64).prod ((En.int .i64).prod enReq)))))) ofEntry toEntry (fun _ => rfl)
@[go_sem] theorem av_Entry {τ : Nat} {x : Entry} : enEntry.av τ x = .agg [.int .i64 x.ver.epoch, .int .i64 x.ver.seq, .int .i64 x.prior.epoch, .int .i64 x.prior.seq, .str x.name, .bool x.gone, .int .i64 x.size, .int .i64 x.sum, .int .i64 x.req.client, .int .i64 x.req.no] := rfl
@[go_sem] theorem cs_Entry {τ : Nat} {x : Entry} : enEntry.cs τ x = [.int .i64 x.ver.epoch, .int .i64 x.ver.seq, .int .i64 x.prior.epoch, .int .i64 x.prior.seq, .str x.name, .bool x.gone, .int .i64 x.size, .int .i64 x.sum, .int .i64 x.req.client, .int .i64 x.req.no] := rfl
theorem tot_Entry {x : Entry} : enEntry.tot x = x.name.size := by
  show enEntry.tot x = _
  simp [enEntry, En.iso, En.prod, ofEntry, En.int, En.bool, En.str, En.strz, tot_list, sum_zero, tot_Req, tot_Ver]
@[go_sem] theorem w_Entry : enEntry.w = 10 := rfl
theorem eq_Entry {x y : Entry} : x = y ↔ x.ver = y.ver ∧ x.prior = y.prior ∧ x.name = y.name ∧ x.gone = y.gone ∧ x.size = y.size ∧ x.sum = y.sum ∧ x.req = y.req := by
  cases x; cases y; simp
def okEntry (x : Entry) : Prop := okVer x.ver ∧ okVer x.prior ∧ x.name.size ≤ 140737488351232 ∧ True ∧ (Lit.int .i64 x.size).wf = true ∧ (Lit.int .i64 x.sum).wf = true ∧ okReq x.req
def zzEntry (x : Entry) : Prop := x.name.size ≤ strB
theorem ok_zzEntry {x : Entry} (h : okEntry x) : zzEntry x := by
  simp only [okEntry] at h
  simp only [zzEntry, strB]
  exact h.2.2.1
theorem fit_58 : FitE Try.prog 58 enEntry := ⟨by simp only [go_sem], by simp only [go_sem], fun τ x => by simp [go_sem]⟩
theorem fitz_58 : FitZ Try.prog 58 enEntry := ⟨by simp only [go_sem], by simp only [go_sem], by simp only [go_sem], by simp [go_sem], by simp only [go_sem], by simp [go_sem], by simp [go_sem], fun τ x => by simp [go_sem, setEl]⟩
theorem fit_69 : FitE Try.prog 69 enEntry := ⟨by simp only [go_sem], by simp only [go_sem], fun τ x => by simp [go_sem]⟩
theorem fitz_69 : FitZ Try.prog 69 enEntry := ⟨by simp only [go_sem], by simp only [go_sem], by simp only [go_sem], by simp [go_sem], by simp only [go_sem], by simp [go_sem], by simp [go_sem], fun τ x => by simp [go_sem, setEl]⟩
structure Chunk where
  name : ByteArray
  ver : Ver
  pos : Int
  sum : Int
  bytes : ByteArray
  deriving Inhabited
def toChunk (p : ByteArray × Ver × Int × Int × ByteArray) : Chunk := ⟨p.1, p.2.1, p.2.2.1, p.2.2.2.1, p.2.2.2.2⟩
def ofChunk (x : Chunk) : ByteArray × Ver × Int × Int × ByteArray := (x.name, (x.ver, (x.pos, (x.sum, x.bytes))))
def enChunk : En Chunk := En.iso (En.strz.prod (enVer.prod ((En.int .i64).prod ((En.int .i64).prod En.strz)))) ofChunk toChunk (fun _ => rfl)
@[go_sem] theorem av_Chunk {τ : Nat} {x : Chunk} : enChunk.av τ x = .agg [.str x.name, .int .i64 x.ver.epoch, .int .i64 x.ver.seq, .int .i64 x.pos, .int .i64 x.sum, .str x.bytes] := rfl
@[go_sem] theorem cs_Chunk {τ : Nat} {x : Chunk} : enChunk.cs τ x = [.str x.name, .int .i64 x.ver.epoch, .int .i64 x.ver.seq, .int .i64 x.pos, .int .i64 x.sum, .str x.bytes] := rfl
theorem tot_Chunk {x : Chunk} : enChunk.tot x = (x.name.size + x.bytes.size) := by
  show enChunk.tot x = _
  simp [enChunk, En.iso, En.prod, ofChunk, En.int, En.bool, En.str, En.strz, tot_list, sum_zero, tot_Ver]
@[go_sem] theorem w_Chunk : enChunk.w = 6 := rfl
theorem eq_Chunk {x y : Chunk} : x = y ↔ x.name = y.name ∧ x.ver = y.ver ∧ x.pos = y.pos ∧ x.sum = y.sum ∧ x.bytes = y.bytes := by
  cases x; cases y; simp
def okChunk (x : Chunk) : Prop := x.name.size ≤ 140737488351232 ∧ okVer x.ver ∧ (Lit.int .i64 x.pos).wf = true ∧ (Lit.int .i64 x.sum).wf = true ∧ x.bytes.size ≤ 140737488351232
def zzChunk (x : Chunk) : Prop := x.name.size ≤ strB ∧ x.bytes.size ≤ strB
theorem ok_zzChunk {x : Chunk} (h : okChunk x) : zzChunk x := by
  simp only [okChunk] at h
  simp only [zzChunk, strB]
  exact ⟨h.1, h.2.2.2.2⟩
theorem fit_60 : FitE Try.prog 60 enChunk := ⟨by simp only [go_sem], by simp only [go_sem], fun τ x => by simp [go_sem]⟩
theorem fitz_60 : FitZ Try.prog 60 enChunk := ⟨by simp only [go_sem], by simp only [go_sem], by simp only [go_sem], by simp [go_sem], by simp only [go_sem], by simp [go_sem], by simp [go_sem], fun τ x => by simp [go_sem, setEl]⟩
theorem fit_71 : FitE Try.prog 71 enChunk := ⟨by simp only [go_sem], by simp only [go_sem], fun τ x => by simp [go_sem]⟩
theorem fitz_71 : FitZ Try.prog 71 enChunk := ⟨by simp only [go_sem], by simp only [go_sem], by simp only [go_sem], by simp [go_sem], by simp only [go_sem], by simp [go_sem], by simp [go_sem], fun τ x => by simp [go_sem, setEl]⟩
structure PgSt where
  pg : Pg
  seen : Int
  started : Int
  tail : Ver
  base : List Head
  clients : List Lst
  log : List Entry
  firm : Ver
  chunks : List Chunk
  deriving Inhabited
def toPgSt (p : Pg × Int × Int × Ver × (List Head) × (List Lst) × (List Entry) × Ver × (List Chunk)) : PgSt := ⟨p.1, p.2.1, p.2.2.1, p.2.2.2.1, p.2.2.2.2.1, p.2.2.2.2.2.1, p.2.2.2.2.2.2.1, p.2.2.2.2.2.2.2.1, p.2.2.2.2.2.2.2.2⟩
def ofPgSt (x : PgSt) : Pg × Int × Int × Ver × (List Head) × (List Lst) × (List Entry) × Ver × (List Chunk) := (x.pg, (x.seen, (x.started, (x.tail, (x.base, (x.clients, (x.log, (x.firm, x.chunks))))))))
def enPgSt : En PgSt := En.iso (enPg.prod ((En.int .i64).prod ((En.int .i64).prod (enVer.prod (enHead.list.prod (enLst.list.prod (enEntry.list.prod (enVer.prod enChunk.list)))))))) ofPgSt toPgSt (fun _ => rfl)
@[go_sem] theorem av_PgSt {τ : Nat} {x : PgSt} : enPgSt.av τ x = .agg [.int .i64 x.pg.pool, .int .i64 x.pg.no, .int .i64 x.seen, .int .i64 x.started, .int .i64 x.tail.epoch, .int .i64 x.tail.seq, .sl τ 5 (x.base.map (enHead.av τ)), .sl τ 4 (x.clients.map (enLst.av τ)), .sl τ 10 (x.log.map (enEntry.av τ)), .int .i64 x.firm.epoch, .int .i64 x.firm.seq, .sl τ 6 (x.chunks.map (enChunk.av τ))] := rfl
@[go_sem] theorem cs_PgSt {τ : Nat} {x : PgSt} : enPgSt.cs τ x = [.int .i64 x.pg.pool, .int .i64 x.pg.no, .int .i64 x.seen, .int .i64 x.started, .int .i64 x.tail.epoch, .int .i64 x.tail.seq, .sl τ 5 (x.base.map (enHead.av τ)), .sl τ 4 (x.clients.map (enLst.av τ)), .sl τ 10 (x.log.map (enEntry.av τ)), .int .i64 x.firm.epoch, .int .i64 x.firm.seq, .sl τ 6 (x.chunks.map (enChunk.av τ))] := rfl
theorem tot_PgSt {x : PgSt} : enPgSt.tot x = ((x.base.length + (x.base.map enHead.tot).sum) + x.clients.length + (x.log.length + (x.log.map enEntry.tot).sum) + (x.chunks.length + (x.chunks.map enChunk.tot).sum)) := by
  show enPgSt.tot x = _
  simp [enPgSt, En.iso, En.prod, ofPgSt, En.int, En.bool, En.str, En.strz, tot_list, sum_zero, sum_flat (E := enLst) (fun _ => tot_Lst), tot_Pg, tot_Ver]
  try omega
@[go_sem] theorem w_PgSt : enPgSt.w = 12 := rfl
theorem eq_PgSt {x y : PgSt} : x = y ↔ x.pg = y.pg ∧ x.seen = y.seen ∧ x.started = y.started ∧ x.tail = y.tail ∧ x.base = y.base ∧ x.clients = y.clients ∧ x.log = y.log ∧ x.firm = y.firm ∧ x.chunks = y.chunks := by
  cases x; cases y; simp
def okPgSt (x : PgSt) : Prop := okPg x.pg ∧ (Lit.int .i64 x.seen).wf = true ∧ (Lit.int .i64 x.started).wf = true ∧ okVer x.tail ∧ (x.base.length ≤ maxLen ∧ x.base.length * 48 ≤ 140737488351232 ∧ ∀ y1 ∈ x.base, okHead y1) ∧ (x.clients.length ≤ maxLen ∧ x.clients.length * 32 ≤ 140737488351232 ∧ ∀ y1 ∈ x.clients, okLst y1) ∧ (x.log.length ≤ maxLen ∧ x.log.length * 88 ≤ 140737488351232 ∧ ∀ y1 ∈ x.log, okEntry y1) ∧ okVer x.firm ∧ (x.chunks.length ≤ maxLen ∧ x.chunks.length * 64 ≤ 140737488351232 ∧ ∀ y1 ∈ x.chunks, okChunk y1)
def zzPgSt (x : PgSt) : Prop := (∀ y ∈ x.base, zzHead y) ∧ (∀ y ∈ x.log, zzEntry y) ∧ (∀ y ∈ x.chunks, zzChunk y)
theorem ok_zzPgSt {x : PgSt} (h : okPgSt x) : zzPgSt x := by
  simp only [okPgSt] at h
  simp only [zzPgSt, strB]
  exact ⟨fun y hy => ok_zzHead (h.2.2.2.2.1.2.2 y hy), fun y hy => ok_zzEntry (h.2.2.2.2.2.2.1.2.2 y hy), fun y hy => ok_zzChunk (h.2.2.2.2.2.2.2.2.2.2 y hy)⟩
theorem fit_54 : FitE Try.prog 54 enPgSt := ⟨by simp only [go_sem], by simp only [go_sem], fun τ x => by simp [go_sem]⟩
theorem fitz_54 : FitZ Try.prog 54 enPgSt := ⟨by simp only [go_sem], by simp only [go_sem], by simp only [go_sem], by simp [go_sem], by simp only [go_sem], by simp [go_sem], by simp [go_sem], fun τ x => by simp [go_sem, setEl]⟩
theorem fit_32 : FitE Try.prog 32 enPgSt := ⟨by simp only [go_sem], by simp only [go_sem], fun τ x => by simp [go_sem]⟩
theorem fitz_32 : FitZ Try.prog 32 enPgSt := ⟨by simp only [go_sem], by simp only [go_sem], by simp only [go_sem], by simp [go_sem], by simp only [go_sem], by simp [go_sem], by simp [go_sem], fun τ x => by simp [go_sem, setEl]⟩
structure Store where
  live : List PgSt
  kept : List PgSt
  deriving Inhabited
def toStore (p : (List PgSt) × (List PgSt)) : Store := ⟨p.1, p.2⟩
def ofStore (x : Store) : (List PgSt) × (List PgSt) := (x.live, x.kept)
def enStore : En Store := En.iso (enPgSt.list.prod enPgSt.list) ofStore toStore (fun _ => rfl)
@[go_sem] theorem av_Store {τ : Nat} {x : Store} : enStore.av τ x = .agg [.sl τ 12 (x.live.map (enPgSt.av τ)), .sl τ 12 (x.kept.map (enPgSt.av τ))] := rfl
@[go_sem] theorem cs_Store {τ : Nat} {x : Store} : enStore.cs τ x = [.sl τ 12 (x.live.map (enPgSt.av τ)), .sl τ 12 (x.kept.map (enPgSt.av τ))] := rfl
theorem tot_Store {x : Store} : enStore.tot x = ((x.live.length + (x.live.map enPgSt.tot).sum) + (x.kept.length + (x.kept.map enPgSt.tot).sum)) := by
  show enStore.tot x = _
  simp [enStore, En.iso, En.prod, ofStore, En.int, En.bool, En.str, En.strz, tot_list, sum_zero]
  try omega
@[go_sem] theorem w_Store : enStore.w = 2 := rfl
theorem eq_Store {x y : Store} : x = y ↔ x.live = y.live ∧ x.kept = y.kept := by
  cases x; cases y; simp
def okStore (x : Store) : Prop := (x.live.length ≤ maxLen ∧ x.live.length * 160 ≤ 140737488351232 ∧ ∀ y1 ∈ x.live, okPgSt y1) ∧ (x.kept.length ≤ maxLen ∧ x.kept.length * 160 ≤ 140737488351232 ∧ ∀ y1 ∈ x.kept, okPgSt y1)
def zzStore (x : Store) : Prop := (∀ y ∈ x.live, zzPgSt y) ∧ (∀ y ∈ x.kept, zzPgSt y)
theorem ok_zzStore {x : Store} (h : okStore x) : zzStore x := by
  simp only [okStore] at h
  simp only [zzStore, strB]
  exact ⟨fun y hy => ok_zzPgSt (h.1.2.2 y hy), fun y hy => ok_zzPgSt (h.2.2.2 y hy)⟩
theorem fit_40 : FitE Try.prog 40 enStore := ⟨by simp only [go_sem], by simp only [go_sem], fun τ x => by simp [go_sem]⟩
theorem fitz_40 : FitZ Try.prog 40 enStore := ⟨by simp only [go_sem], by simp only [go_sem], by simp only [go_sem], by simp [go_sem], by simp only [go_sem], by simp [go_sem], by simp [go_sem], fun τ x => by simp [go_sem, setEl]⟩
theorem fit_45 : FitE Try.prog 45 enStore := ⟨by simp only [go_sem], by simp only [go_sem], fun τ x => by simp [go_sem]⟩
theorem fitz_45 : FitZ Try.prog 45 enStore := ⟨by simp only [go_sem], by simp only [go_sem], by simp only [go_sem], by simp [go_sem], by simp only [go_sem], by simp [go_sem], by simp [go_sem], fun τ x => by simp [go_sem, setEl]⟩
structure Op where
  kind : Int
  at_ : Int
  bytes : ByteArray
  deriving Inhabited
def toOp (p : Int × Int × ByteArray) : Op := ⟨p.1, p.2.1, p.2.2⟩
def ofOp (x : Op) : Int × Int × ByteArray := (x.kind, (x.at_, x.bytes))
def enOp : En Op := En.iso ((En.int .i64).prod ((En.int .i64).prod En.strz)) ofOp toOp (fun _ => rfl)
@[go_sem] theorem av_Op {τ : Nat} {x : Op} : enOp.av τ x = .agg [.int .i64 x.kind, .int .i64 x.at_, .str x.bytes] := rfl
@[go_sem] theorem cs_Op {τ : Nat} {x : Op} : enOp.cs τ x = [.int .i64 x.kind, .int .i64 x.at_, .str x.bytes] := rfl
theorem tot_Op {x : Op} : enOp.tot x = x.bytes.size := by
  show enOp.tot x = _
  simp [enOp, En.iso, En.prod, ofOp, En.int, En.bool, En.str, En.strz, tot_list, sum_zero]
@[go_sem] theorem w_Op : enOp.w = 3 := rfl
theorem eq_Op {x y : Op} : x = y ↔ x.kind = y.kind ∧ x.at_ = y.at_ ∧ x.bytes = y.bytes := by
  cases x; cases y; simp
def okOp (x : Op) : Prop := (Lit.int .i64 x.kind).wf = true ∧ (Lit.int .i64 x.at_).wf = true ∧ x.bytes.size ≤ 140737488351232
def zzOp (x : Op) : Prop := x.bytes.size ≤ strB
theorem ok_zzOp {x : Op} (h : okOp x) : zzOp x := by
  simp only [okOp] at h
  simp only [zzOp, strB]
  exact h.2.2
theorem fit_62 : FitE Try.prog 62 enOp := ⟨by simp only [go_sem], by simp only [go_sem], fun τ x => by simp [go_sem]⟩
theorem fitz_62 : FitZ Try.prog 62 enOp := ⟨by simp only [go_sem], by simp only [go_sem], by simp only [go_sem], by simp [go_sem], by simp only [go_sem], by simp [go_sem], by simp [go_sem], fun τ x => by simp [go_sem, setEl]⟩
theorem fit_72 : FitE Try.prog 72 enOp := ⟨by simp only [go_sem], by simp only [go_sem], fun τ x => by simp [go_sem]⟩
theorem fitz_72 : FitZ Try.prog 72 enOp := ⟨by simp only [go_sem], by simp only [go_sem], by simp only [go_sem], by simp [go_sem], by simp only [go_sem], by simp [go_sem], by simp [go_sem], fun τ x => by simp [go_sem, setEl]⟩
structure Msg where
  kind : Int
  from_ : Int
  to_ : Int
  pg : Pg
  epoch : Int
  name : ByteArray
  ver : Ver
  firm : Ver
  state : PgSt
  entry : Entry
  chunk : Chunk
  op : Op
  req : Req
  code : Int
  body : ByteArray
  deriving Inhabited
def toMsg (p : Int × Int × Int × Pg × Int × ByteArray × Ver × Ver × PgSt × Entry × Chunk × Op × Req × Int × ByteArray) : Msg := ⟨p.1, p.2.1, p.2.2.1, p.2.2.2.1, p.2.2.2.2.1, p.2.2.2.2.2.1, p.2.2.2.2.2.2.1, p.2.2.2.2.2.2.2.1, p.2.2.2.2.2.2.2.2.1, p.2.2.2.2.2.2.2.2.2.1, p.2.2.2.2.2.2.2.2.2.2.1, p.2.2.2.2.2.2.2.2.2.2.2.1, p.2.2.2.2.2.2.2.2.2.2.2.2.1, p.2.2.2.2.2.2.2.2.2.2.2.2.2.1, p.2.2.2.2.2.2.2.2.2.2.2.2.2.2⟩
def ofMsg (x : Msg) : Int × Int × Int × Pg × Int × ByteArray × Ver × Ver × PgSt × Entry × Chunk × Op × Req × Int × ByteArray := (x.kind, (x.from_, (x.to_, (x.pg, (x.epoch, (x.name, (x.ver, (x.firm, (x.state, (x.entry, (x.chunk, (x.op, (x.req, (x.code, x.body))))))))))))))
def enMsg : En Msg := En.iso ((En.int .i64).prod ((En.int .i64).prod ((En.int .i64).prod (enPg.prod ((En.int .i64).prod (En.strz.prod (enVer.prod (enVer.prod (enPgSt.prod (enEntry.prod (enChunk.prod (enOp.prod (enReq.prod ((En.int .i64).prod En.strz)))))))))))))) ofMsg toMsg (fun _ => rfl)
@[go_sem] theorem av_Msg {τ : Nat} {x : Msg} : enMsg.av τ x = .agg [.int .i64 x.kind, .int .i64 x.from_, .int .i64 x.to_, .int .i64 x.pg.pool, .int .i64 x.pg.no, .int .i64 x.epoch, .str x.name, .int .i64 x.ver.epoch, .int .i64 x.ver.seq, .int .i64 x.firm.epoch, .int .i64 x.firm.seq, .int .i64 x.state.pg.pool, .int .i64 x.state.pg.no, .int .i64 x.state.seen, .int .i64 x.state.started, .int .i64 x.state.tail.epoch, .int .i64 x.state.tail.seq, .sl τ 5 (x.state.base.map (enHead.av τ)), .sl τ 4 (x.state.clients.map (enLst.av τ)), .sl τ 10 (x.state.log.map (enEntry.av τ)), .int .i64 x.state.firm.epoch, .int .i64 x.state.firm.seq, .sl τ 6 (x.state.chunks.map (enChunk.av τ)), .int .i64 x.entry.ver.epoch, .int .i64 x.entry.ver.seq, .int .i64 x.entry.prior.epoch, .int .i64 x.entry.prior.seq, .str x.entry.name, .bool x.entry.gone, .int .i64 x.entry.size, .int .i64 x.entry.sum, .int .i64 x.entry.req.client, .int .i64 x.entry.req.no, .str x.chunk.name, .int .i64 x.chunk.ver.epoch, .int .i64 x.chunk.ver.seq, .int .i64 x.chunk.pos, .int .i64 x.chunk.sum, .str x.chunk.bytes, .int .i64 x.op.kind, .int .i64 x.op.at_, .str x.op.bytes, .int .i64 x.req.client, .int .i64 x.req.no, .int .i64 x.code, .str x.body] := rfl
@[go_sem] theorem cs_Msg {τ : Nat} {x : Msg} : enMsg.cs τ x = [.int .i64 x.kind, .int .i64 x.from_, .int .i64 x.to_, .int .i64 x.pg.pool, .int .i64 x.pg.no, .int .i64 x.epoch, .str x.name, .int .i64 x.ver.epoch, .int .i64 x.ver.seq, .int .i64 x.firm.epoch, .int .i64 x.firm.seq, .int .i64 x.state.pg.pool, .int .i64 x.state.pg.no, .int .i64 x.state.seen, .int .i64 x.state.started, .int .i64 x.state.tail.epoch, .int .i64 x.state.tail.seq, .sl τ 5 (x.state.base.map (enHead.av τ)), .sl τ 4 (x.state.clients.map (enLst.av τ)), .sl τ 10 (x.state.log.map (enEntry.av τ)), .int .i64 x.state.firm.epoch, .int .i64 x.state.firm.seq, .sl τ 6 (x.state.chunks.map (enChunk.av τ)), .int .i64 x.entry.ver.epoch, .int .i64 x.entry.ver.seq, .int .i64 x.entry.prior.epoch, .int .i64 x.entry.prior.seq, .str x.entry.name, .bool x.entry.gone, .int .i64 x.entry.size, .int .i64 x.entry.sum, .int .i64 x.entry.req.client, .int .i64 x.entry.req.no, .str x.chunk.name, .int .i64 x.chunk.ver.epoch, .int .i64 x.chunk.ver.seq, .int .i64 x.chunk.pos, .int .i64 x.chunk.sum, .str x.chunk.bytes, .int .i64 x.op.kind, .int .i64 x.op.at_, .str x.op.bytes, .int .i64 x.req.client, .int .i64 x.req.no, .int .i64 x.code, .str x.body] := rfl
theorem tot_Msg {x : Msg} : enMsg.tot x = (x.name.size + ((x.state.base.length + (x.state.base.map enHead.tot).sum) + x.state.clients.length + (x.state.log.length + (x.state.log.map enEntry.tot).sum) + (x.state.chunks.length + (x.state.chunks.map enChunk.tot).sum)) + x.entry.name.size + (x.chunk.name.size + x.chunk.bytes.size) + x.op.bytes.size + x.body.size) := by
  show enMsg.tot x = _
  simp [enMsg, En.iso, En.prod, ofMsg, En.int, En.bool, En.str, En.strz, tot_list, sum_zero, sum_flat (E := enLst) (fun _ => tot_Lst), tot_Chunk, tot_Entry, tot_Op, tot_Pg, tot_PgSt, tot_Req, tot_Ver]
  try omega
@[go_sem] theorem w_Msg : enMsg.w = 46 := rfl
theorem eq_Msg {x y : Msg} : x = y ↔ x.kind = y.kind ∧ x.from_ = y.from_ ∧ x.to_ = y.to_ ∧ x.pg = y.pg ∧ x.epoch = y.epoch ∧ x.name = y.name ∧ x.ver = y.ver ∧ x.firm = y.firm ∧ x.state = y.state ∧ x.entry = y.entry ∧ x.chunk = y.chunk ∧ x.op = y.op ∧ x.req = y.req ∧ x.code = y.code ∧ x.body = y.body := by
  cases x; cases y; simp
def okMsg (x : Msg) : Prop := (Lit.int .i64 x.kind).wf = true ∧ (Lit.int .i64 x.from_).wf = true ∧ (Lit.int .i64 x.to_).wf = true ∧ okPg x.pg ∧ (Lit.int .i64 x.epoch).wf = true ∧ x.name.size ≤ 140737488351232 ∧ okVer x.ver ∧ okVer x.firm ∧ okPgSt x.state ∧ okEntry x.entry ∧ okChunk x.chunk ∧ okOp x.op ∧ okReq x.req ∧ (Lit.int .i64 x.code).wf = true ∧ x.body.size ≤ 140737488351232
def zzMsg (x : Msg) : Prop := x.name.size ≤ strB ∧ zzPgSt x.state ∧ zzEntry x.entry ∧ zzChunk x.chunk ∧ zzOp x.op ∧ x.body.size ≤ strB
theorem ok_zzMsg {x : Msg} (h : okMsg x) : zzMsg x := by
  simp only [okMsg] at h
  simp only [zzMsg, strB]
  exact ⟨h.2.2.2.2.2.1, ok_zzPgSt h.2.2.2.2.2.2.2.2.1, ok_zzEntry h.2.2.2.2.2.2.2.2.2.1, ok_zzChunk h.2.2.2.2.2.2.2.2.2.2.1, ok_zzOp h.2.2.2.2.2.2.2.2.2.2.2.1, h.2.2.2.2.2.2.2.2.2.2.2.2.2.2⟩
theorem fit_64 : FitE Try.prog 64 enMsg := ⟨by simp only [go_sem], by simp only [go_sem], fun τ x => by simp [go_sem]⟩
theorem fitz_64 : FitZ Try.prog 64 enMsg := ⟨by simp only [go_sem], by simp only [go_sem], by simp only [go_sem], by simp [go_sem], by simp only [go_sem], by simp [go_sem], by simp [go_sem], fun τ x => by simp [go_sem, setEl]⟩
theorem fit_74 : FitE Try.prog 74 enMsg := ⟨by simp only [go_sem], by simp only [go_sem], fun τ x => by simp [go_sem]⟩
theorem fitz_74 : FitZ Try.prog 74 enMsg := ⟨by simp only [go_sem], by simp only [go_sem], by simp only [go_sem], by simp [go_sem], by simp only [go_sem], by simp [go_sem], by simp [go_sem], fun τ x => by simp [go_sem, setEl]⟩
theorem rd_23 : Reads Try.prog 23 (QE enPg okPg) := (reads_struct [(1, QE (En.int .i64) (fun x => (Lit.int .i64 x).wf = true)), (1, QE (En.int .i64) (fun x => (Lit.int .i64 x).wf = true))] Try.underlying23 (FieldsFit.cons rfl (by kernel_rfl) (rd_int Try.underlying2) (FieldsFit.cons rfl (by kernel_rfl) (rd_int Try.underlying2) (FieldsFit.nil (by kernel_rfl))))).imp fun w cs h => qe_iso (ok := fun p : Int × Int => (Lit.int .i64 p.1).wf = true ∧ (Lit.int .i64 p.2).wf = true) (fun _ => rfl) (rowq_cons (E := (En.int .i64)) (ok := fun x => (Lit.int .i64 x).wf = true) (fun cs h => rowq_one (E := (En.int .i64)) (ok := fun x => (Lit.int .i64 x).wf = true) h) h)
theorem rd_48 : Reads Try.prog 48 (QE enVer okVer) := (reads_struct [(1, QE (En.int .i64) (fun x => (Lit.int .i64 x).wf = true)), (1, QE (En.int .i64) (fun x => (Lit.int .i64 x).wf = true))] Try.underlying48 (FieldsFit.cons rfl (by kernel_rfl) (rd_int Try.underlying2) (FieldsFit.cons rfl (by kernel_rfl) (rd_int Try.underlying2) (FieldsFit.nil (by kernel_rfl))))).imp fun w cs h => qe_iso (ok := fun p : Int × Int => (Lit.int .i64 p.1).wf = true ∧ (Lit.int .i64 p.2).wf = true) (fun _ => rfl) (rowq_cons (E := (En.int .i64)) (ok := fun x => (Lit.int .i64 x).wf = true) (fun cs h => rowq_one (E := (En.int .i64)) (ok := fun x => (Lit.int .i64 x).wf = true) h) h)
theorem rd_56 : Reads Try.prog 56 (QE enReq okReq) := (reads_struct [(1, QE (En.int .i64) (fun x => (Lit.int .i64 x).wf = true)), (1, QE (En.int .i64) (fun x => (Lit.int .i64 x).wf = true))] Try.underlying56 (FieldsFit.cons rfl (by kernel_rfl) (rd_int Try.underlying2) (FieldsFit.cons rfl (by kernel_rfl) (rd_int Try.underlying2) (FieldsFit.nil (by kernel_rfl))))).imp fun w cs h => qe_iso (ok := fun p : Int × Int => (Lit.int .i64 p.1).wf = true ∧ (Lit.int .i64 p.2).wf = true) (fun _ => rfl) (rowq_cons (E := (En.int .i64)) (ok := fun x => (Lit.int .i64 x).wf = true) (fun cs h => rowq_one (E := (En.int .i64)) (ok := fun x => (Lit.int .i64 x).wf = true) h) h)
theorem rd_125 : Reads Try.prog 125 (QE enHead okHead) := (reads_struct [(1, QE En.strz (fun x => x.size ≤ 140737488351232)), (2, QE enVer (fun x => okVer x)), (1, QE (En.int .i64) (fun x => (Lit.int .i64 x).wf = true)), (1, QE (En.int .i64) (fun x => (Lit.int .i64 x).wf = true))] Try.underlying125 (FieldsFit.cons rfl (by kernel_rfl) (rd_strz Try.underlying9) (FieldsFit.cons rfl (by kernel_rfl) rd_48 (FieldsFit.cons rfl (by kernel_rfl) (rd_int Try.underlying2) (FieldsFit.cons rfl (by kernel_rfl) (rd_int Try.underlying2) (FieldsFit.nil (by kernel_rfl))))))).imp fun w cs h => qe_iso (ok := fun p : ByteArray × Ver × Int × Int => p.1.size ≤ 140737488351232 ∧ okVer p.2.1 ∧ (Lit.int .i64 p.2.2.1).wf = true ∧ (Lit.int .i64 p.2.2.2).wf = true) (fun _ => rfl) (rowq_cons (E := En.strz) (ok := fun x => x.size ≤ 140737488351232) (fun cs h => rowq_cons (E := enVer) (ok := fun x => okVer x) (fun cs h => rowq_cons (E := (En.int .i64)) (ok := fun x => (Lit.int .i64 x).wf = true) (fun cs h => rowq_one (E := (En.int .i64)) (ok := fun x => (Lit.int .i64 x).wf = true) h) h) h) h)
theorem rd_129 : Reads Try.prog 129 (QE enLst okLst) := (reads_struct [(1, QE (En.int .i64) (fun x => (Lit.int .i64 x).wf = true)), (1, QE (En.int .i64) (fun x => (Lit.int .i64 x).wf = true)), (2, QE enVer (fun x => okVer x))] Try.underlying129 (FieldsFit.cons rfl (by kernel_rfl) (rd_int Try.underlying2) (FieldsFit.cons rfl (by kernel_rfl) (rd_int Try.underlying2) (FieldsFit.cons rfl (by kernel_rfl) rd_48 (FieldsFit.nil (by kernel_rfl)))))).imp fun w cs h => qe_iso (ok := fun p : Int × Int × Ver => (Lit.int .i64 p.1).wf = true ∧ (Lit.int .i64 p.2.1).wf = true ∧ okVer p.2.2) (fun _ => rfl) (rowq_cons (E := (En.int .i64)) (ok := fun x => (Lit.int .i64 x).wf = true) (fun cs h => rowq_cons (E := (En.int .i64)) (ok := fun x => (Lit.int .i64 x).wf = true) (fun cs h => rowq_one (E := enVer) (ok := fun x => okVer x) h) h) h)
theorem rd_58 : Reads Try.prog 58 (QE enEntry okEntry) := (reads_struct [(2, QE enVer (fun x => okVer x)), (2, QE enVer (fun x => okVer x)), (1, QE En.strz (fun x => x.size ≤ 140737488351232)), (1, QE En.bool (fun x => True)), (1, QE (En.int .i64) (fun x => (Lit.int .i64 x).wf = true)), (1, QE (En.int .i64) (fun x => (Lit.int .i64 x).wf = true)), (2, QE enReq (fun x => okReq x))] Try.underlying58 (FieldsFit.cons rfl (by kernel_rfl) rd_48 (FieldsFit.cons rfl (by kernel_rfl) rd_48 (FieldsFit.cons rfl (by kernel_rfl) (rd_strz Try.underlying9) (FieldsFit.cons rfl (by kernel_rfl) (rd_bool Try.underlying4) (FieldsFit.cons rfl (by kernel_rfl) (rd_int Try.underlying2) (FieldsFit.cons rfl (by kernel_rfl) (rd_int Try.underlying2) (FieldsFit.cons rfl (by kernel_rfl) rd_56 (FieldsFit.nil (by kernel_rfl)))))))))).imp fun w cs h => qe_iso (ok := fun p : Ver × Ver × ByteArray × Bool × Int × Int × Req => okVer p.1 ∧ okVer p.2.1 ∧ p.2.2.1.size ≤ 140737488351232 ∧ True ∧ (Lit.int .i64 p.2.2.2.2.1).wf = true ∧ (Lit.int .i64 p.2.2.2.2.2.1).wf = true ∧ okReq p.2.2.2.2.2.2) (fun _ => rfl) (rowq_cons (E := enVer) (ok := fun x => okVer x) (fun cs h => rowq_cons (E := enVer) (ok := fun x => okVer x) (fun cs h => rowq_cons (E := En.strz) (ok := fun x => x.size ≤ 140737488351232) (fun cs h => rowq_cons (E := En.bool) (ok := fun x => True) (fun cs h => rowq_cons (E := (En.int .i64)) (ok := fun x => (Lit.int .i64 x).wf = true) (fun cs h => rowq_cons (E := (En.int .i64)) (ok := fun x => (Lit.int .i64 x).wf = true) (fun cs h => rowq_one (E := enReq) (ok := fun x => okReq x) h) h) h) h) h) h) h)
theorem rd_60 : Reads Try.prog 60 (QE enChunk okChunk) := (reads_struct [(1, QE En.strz (fun x => x.size ≤ 140737488351232)), (2, QE enVer (fun x => okVer x)), (1, QE (En.int .i64) (fun x => (Lit.int .i64 x).wf = true)), (1, QE (En.int .i64) (fun x => (Lit.int .i64 x).wf = true)), (1, QE En.strz (fun x => x.size ≤ 140737488351232))] Try.underlying60 (FieldsFit.cons rfl (by kernel_rfl) (rd_strz Try.underlying9) (FieldsFit.cons rfl (by kernel_rfl) rd_48 (FieldsFit.cons rfl (by kernel_rfl) (rd_int Try.underlying2) (FieldsFit.cons rfl (by kernel_rfl) (rd_int Try.underlying2) (FieldsFit.cons rfl (by kernel_rfl) (rd_strz Try.underlying9) (FieldsFit.nil (by kernel_rfl)))))))).imp fun w cs h => qe_iso (ok := fun p : ByteArray × Ver × Int × Int × ByteArray => p.1.size ≤ 140737488351232 ∧ okVer p.2.1 ∧ (Lit.int .i64 p.2.2.1).wf = true ∧ (Lit.int .i64 p.2.2.2.1).wf = true ∧ p.2.2.2.2.size ≤ 140737488351232) (fun _ => rfl) (rowq_cons (E := En.strz) (ok := fun x => x.size ≤ 140737488351232) (fun cs h => rowq_cons (E := enVer) (ok := fun x => okVer x) (fun cs h => rowq_cons (E := (En.int .i64)) (ok := fun x => (Lit.int .i64 x).wf = true) (fun cs h => rowq_cons (E := (En.int .i64)) (ok := fun x => (Lit.int .i64 x).wf = true) (fun cs h => rowq_one (E := En.strz) (ok := fun x => x.size ≤ 140737488351232) h) h) h) h) h)
theorem rd_54 : Reads Try.prog 54 (QE enPgSt okPgSt) := (reads_struct [(2, QE enPg (fun x => okPg x)), (1, QE (En.int .i64) (fun x => (Lit.int .i64 x).wf = true)), (1, QE (En.int .i64) (fun x => (Lit.int .i64 x).wf = true)), (2, QE enVer (fun x => okVer x)), (1, QE enHead.list (fun x => (x.length ≤ maxLen ∧ x.length * 48 ≤ 140737488351232 ∧ ∀ y1 ∈ x, okHead y1))), (1, QE enLst.list (fun x => (x.length ≤ maxLen ∧ x.length * 32 ≤ 140737488351232 ∧ ∀ y1 ∈ x, okLst y1))), (1, QE enEntry.list (fun x => (x.length ≤ maxLen ∧ x.length * 88 ≤ 140737488351232 ∧ ∀ y1 ∈ x, okEntry y1))), (2, QE enVer (fun x => okVer x)), (1, QE enChunk.list (fun x => (x.length ≤ maxLen ∧ x.length * 64 ≤ 140737488351232 ∧ ∀ y1 ∈ x, okChunk y1)))] Try.underlying54 (FieldsFit.cons rfl (by kernel_rfl) rd_23 (FieldsFit.cons rfl (by kernel_rfl) (rd_int Try.underlying2) (FieldsFit.cons rfl (by kernel_rfl) (rd_int Try.underlying2) (FieldsFit.cons rfl (by kernel_rfl) rd_48 (FieldsFit.cons rfl (by kernel_rfl) (rd_list 48 Try.underlying49 (by kernel_rfl) (by kernel_rfl) rd_125) (FieldsFit.cons rfl (by kernel_rfl) (rd_list 32 Try.underlying50 (by kernel_rfl) (by kernel_rfl) rd_129) (FieldsFit.cons rfl (by kernel_rfl) (rd_list 88 Try.underlying51 (by kernel_rfl) (by kernel_rfl) rd_58) (FieldsFit.cons rfl (by kernel_rfl) rd_48 (FieldsFit.cons rfl (by kernel_rfl) (rd_list 64 Try.underlying52 (by kernel_rfl) (by kernel_rfl) rd_60) (FieldsFit.nil (by kernel_rfl)))))))))))).imp fun w cs h => qe_iso (ok := fun p : Pg × Int × Int × Ver × (List Head) × (List Lst) × (List Entry) × Ver × (List Chunk) => okPg p.1 ∧ (Lit.int .i64 p.2.1).wf = true ∧ (Lit.int .i64 p.2.2.1).wf = true ∧ okVer p.2.2.2.1 ∧ (p.2.2.2.2.1.length ≤ maxLen ∧ p.2.2.2.2.1.length * 48 ≤ 140737488351232 ∧ ∀ y1 ∈ p.2.2.2.2.1, okHead y1) ∧ (p.2.2.2.2.2.1.length ≤ maxLen ∧ p.2.2.2.2.2.1.length * 32 ≤ 140737488351232 ∧ ∀ y1 ∈ p.2.2.2.2.2.1, okLst y1) ∧ (p.2.2.2.2.2.2.1.length ≤ maxLen ∧ p.2.2.2.2.2.2.1.length * 88 ≤ 140737488351232 ∧ ∀ y1 ∈ p.2.2.2.2.2.2.1, okEntry y1) ∧ okVer p.2.2.2.2.2.2.2.1 ∧ (p.2.2.2.2.2.2.2.2.length ≤ maxLen ∧ p.2.2.2.2.2.2.2.2.length * 64 ≤ 140737488351232 ∧ ∀ y1 ∈ p.2.2.2.2.2.2.2.2, okChunk y1)) (fun _ => rfl) (rowq_cons (E := enPg) (ok := fun x => okPg x) (fun cs h => rowq_cons (E := (En.int .i64)) (ok := fun x => (Lit.int .i64 x).wf = true) (fun cs h => rowq_cons (E := (En.int .i64)) (ok := fun x => (Lit.int .i64 x).wf = true) (fun cs h => rowq_cons (E := enVer) (ok := fun x => okVer x) (fun cs h => rowq_cons (E := enHead.list) (ok := fun x => (x.length ≤ maxLen ∧ x.length * 48 ≤ 140737488351232 ∧ ∀ y1 ∈ x, okHead y1)) (fun cs h => rowq_cons (E := enLst.list) (ok := fun x => (x.length ≤ maxLen ∧ x.length * 32 ≤ 140737488351232 ∧ ∀ y1 ∈ x, okLst y1)) (fun cs h => rowq_cons (E := enEntry.list) (ok := fun x => (x.length ≤ maxLen ∧ x.length * 88 ≤ 140737488351232 ∧ ∀ y1 ∈ x, okEntry y1)) (fun cs h => rowq_cons (E := enVer) (ok := fun x => okVer x) (fun cs h => rowq_one (E := enChunk.list) (ok := fun x => (x.length ≤ maxLen ∧ x.length * 64 ≤ 140737488351232 ∧ ∀ y1 ∈ x, okChunk y1)) h) h) h) h) h) h) h) h) h)
theorem rd_40 : Reads Try.prog 40 (QE enStore okStore) := (reads_struct [(1, QE enPgSt.list (fun x => (x.length ≤ maxLen ∧ x.length * 160 ≤ 140737488351232 ∧ ∀ y1 ∈ x, okPgSt y1))), (1, QE enPgSt.list (fun x => (x.length ≤ maxLen ∧ x.length * 160 ≤ 140737488351232 ∧ ∀ y1 ∈ x, okPgSt y1)))] Try.underlying40 (FieldsFit.cons rfl (by kernel_rfl) (rd_list 160 Try.underlying38 (by kernel_rfl) (by kernel_rfl) rd_54) (FieldsFit.cons rfl (by kernel_rfl) (rd_list 160 Try.underlying38 (by kernel_rfl) (by kernel_rfl) rd_54) (FieldsFit.nil (by kernel_rfl))))).imp fun w cs h => qe_iso (ok := fun p : (List PgSt) × (List PgSt) => (p.1.length ≤ maxLen ∧ p.1.length * 160 ≤ 140737488351232 ∧ ∀ y1 ∈ p.1, okPgSt y1) ∧ (p.2.length ≤ maxLen ∧ p.2.length * 160 ≤ 140737488351232 ∧ ∀ y1 ∈ p.2, okPgSt y1)) (fun _ => rfl) (rowq_cons (E := enPgSt.list) (ok := fun x => (x.length ≤ maxLen ∧ x.length * 160 ≤ 140737488351232 ∧ ∀ y1 ∈ x, okPgSt y1)) (fun cs h => rowq_one (E := enPgSt.list) (ok := fun x => (x.length ≤ maxLen ∧ x.length * 160 ≤ 140737488351232 ∧ ∀ y1 ∈ x, okPgSt y1)) h) h)
theorem rd_62 : Reads Try.prog 62 (QE enOp okOp) := (reads_struct [(1, QE (En.int .i64) (fun x => (Lit.int .i64 x).wf = true)), (1, QE (En.int .i64) (fun x => (Lit.int .i64 x).wf = true)), (1, QE En.strz (fun x => x.size ≤ 140737488351232))] Try.underlying62 (FieldsFit.cons rfl (by kernel_rfl) (rd_int Try.underlying2) (FieldsFit.cons rfl (by kernel_rfl) (rd_int Try.underlying2) (FieldsFit.cons rfl (by kernel_rfl) (rd_strz Try.underlying9) (FieldsFit.nil (by kernel_rfl)))))).imp fun w cs h => qe_iso (ok := fun p : Int × Int × ByteArray => (Lit.int .i64 p.1).wf = true ∧ (Lit.int .i64 p.2.1).wf = true ∧ p.2.2.size ≤ 140737488351232) (fun _ => rfl) (rowq_cons (E := (En.int .i64)) (ok := fun x => (Lit.int .i64 x).wf = true) (fun cs h => rowq_cons (E := (En.int .i64)) (ok := fun x => (Lit.int .i64 x).wf = true) (fun cs h => rowq_one (E := En.strz) (ok := fun x => x.size ≤ 140737488351232) h) h) h)
theorem rd_64 : Reads Try.prog 64 (QE enMsg okMsg) := (reads_struct [(1, QE (En.int .i64) (fun x => (Lit.int .i64 x).wf = true)), (1, QE (En.int .i64) (fun x => (Lit.int .i64 x).wf = true)), (1, QE (En.int .i64) (fun x => (Lit.int .i64 x).wf = true)), (2, QE enPg (fun x => okPg x)), (1, QE (En.int .i64) (fun x => (Lit.int .i64 x).wf = true)), (1, QE En.strz (fun x => x.size ≤ 140737488351232)), (2, QE enVer (fun x => okVer x)), (2, QE enVer (fun x => okVer x)), (12, QE enPgSt (fun x => okPgSt x)), (10, QE enEntry (fun x => okEntry x)), (6, QE enChunk (fun x => okChunk x)), (3, QE enOp (fun x => okOp x)), (2, QE enReq (fun x => okReq x)), (1, QE (En.int .i64) (fun x => (Lit.int .i64 x).wf = true)), (1, QE En.strz (fun x => x.size ≤ 140737488351232))] Try.underlying64 (FieldsFit.cons rfl (by kernel_rfl) (rd_int Try.underlying2) (FieldsFit.cons rfl (by kernel_rfl) (rd_int Try.underlying2) (FieldsFit.cons rfl (by kernel_rfl) (rd_int Try.underlying2) (FieldsFit.cons rfl (by kernel_rfl) rd_23 (FieldsFit.cons rfl (by kernel_rfl) (rd_int Try.underlying2) (FieldsFit.cons rfl (by kernel_rfl) (rd_strz Try.underlying9) (FieldsFit.cons rfl (by kernel_rfl) rd_48 (FieldsFit.cons rfl (by kernel_rfl) rd_48 (FieldsFit.cons rfl (by kernel_rfl) rd_54 (FieldsFit.cons rfl (by kernel_rfl) rd_58 (FieldsFit.cons rfl (by kernel_rfl) rd_60 (FieldsFit.cons rfl (by kernel_rfl) rd_62 (FieldsFit.cons rfl (by kernel_rfl) rd_56 (FieldsFit.cons rfl (by kernel_rfl) (rd_int Try.underlying2) (FieldsFit.cons rfl (by kernel_rfl) (rd_strz Try.underlying9) (FieldsFit.nil (by kernel_rfl)))))))))))))))))).imp fun w cs h => qe_iso (ok := fun p : Int × Int × Int × Pg × Int × ByteArray × Ver × Ver × PgSt × Entry × Chunk × Op × Req × Int × ByteArray => (Lit.int .i64 p.1).wf = true ∧ (Lit.int .i64 p.2.1).wf = true ∧ (Lit.int .i64 p.2.2.1).wf = true ∧ okPg p.2.2.2.1 ∧ (Lit.int .i64 p.2.2.2.2.1).wf = true ∧ p.2.2.2.2.2.1.size ≤ 140737488351232 ∧ okVer p.2.2.2.2.2.2.1 ∧ okVer p.2.2.2.2.2.2.2.1 ∧ okPgSt p.2.2.2.2.2.2.2.2.1 ∧ okEntry p.2.2.2.2.2.2.2.2.2.1 ∧ okChunk p.2.2.2.2.2.2.2.2.2.2.1 ∧ okOp p.2.2.2.2.2.2.2.2.2.2.2.1 ∧ okReq p.2.2.2.2.2.2.2.2.2.2.2.2.1 ∧ (Lit.int .i64 p.2.2.2.2.2.2.2.2.2.2.2.2.2.1).wf = true ∧ p.2.2.2.2.2.2.2.2.2.2.2.2.2.2.size ≤ 140737488351232) (fun _ => rfl) (rowq_cons (E := (En.int .i64)) (ok := fun x => (Lit.int .i64 x).wf = true) (fun cs h => rowq_cons (E := (En.int .i64)) (ok := fun x => (Lit.int .i64 x).wf = true) (fun cs h => rowq_cons (E := (En.int .i64)) (ok := fun x => (Lit.int .i64 x).wf = true) (fun cs h => rowq_cons (E := enPg) (ok := fun x => okPg x) (fun cs h => rowq_cons (E := (En.int .i64)) (ok := fun x => (Lit.int .i64 x).wf = true) (fun cs h => rowq_cons (E := En.strz) (ok := fun x => x.size ≤ 140737488351232) (fun cs h => rowq_cons (E := enVer) (ok := fun x => okVer x) (fun cs h => rowq_cons (E := enVer) (ok := fun x => okVer x) (fun cs h => rowq_cons (E := enPgSt) (ok := fun x => okPgSt x) (fun cs h => rowq_cons (E := enEntry) (ok := fun x => okEntry x) (fun cs h => rowq_cons (E := enChunk) (ok := fun x => okChunk x) (fun cs h => rowq_cons (E := enOp) (ok := fun x => okOp x) (fun cs h => rowq_cons (E := enReq) (ok := fun x => okReq x) (fun cs h => rowq_cons (E := (En.int .i64)) (ok := fun x => (Lit.int .i64 x).wf = true) (fun cs h => rowq_one (E := En.strz) (ok := fun x => x.size ≤ 140737488351232) h) h) h) h) h) h) h) h) h) h) h) h) h) h) h)
@[go_sem] theorem eqok_23 : eqOk Try.prog 23 [0, 0] = true := by kernel_rfl
@[go_sem] theorem eqok_24 : eqOk Try.prog 24 [0, 0] = true := by kernel_rfl
@[go_sem] theorem eqok_48 : eqOk Try.prog 48 [0, 0] = true := by kernel_rfl
@[go_sem] theorem eqok_26 : eqOk Try.prog 26 [0, 0] = true := by kernel_rfl
@[go_sem] theorem eqok_56 : eqOk Try.prog 56 [0, 0] = true := by kernel_rfl
@[go_sem] theorem eqok_67 : eqOk Try.prog 67 [0, 0] = true := by kernel_rfl
@[go_sem] theorem eqok_125 : eqOk Try.prog 125 [2, 0, 0, 0, 0] = true := by kernel_rfl
@[go_sem] theorem eqok_108 : eqOk Try.prog 108 [2, 0, 0, 0, 0] = true := by kernel_rfl
@[go_sem] theorem eqok_129 : eqOk Try.prog 129 [0, 0, 0, 0] = true := by kernel_rfl
@[go_sem] theorem eqok_111 : eqOk Try.prog 111 [0, 0, 0, 0] = true := by kernel_rfl
@[go_sem] theorem eqok_58 : eqOk Try.prog 58 [0, 0, 0, 0, 2, 1, 0, 0, 0, 0] = true := by kernel_rfl
@[go_sem] theorem eqok_69 : eqOk Try.prog 69 [0, 0, 0, 0, 2, 1, 0, 0, 0, 0] = true := by kernel_rfl
@[go_sem] theorem eqok_60 : eqOk Try.prog 60 [2, 0, 0, 0, 0, 2] = true := by kernel_rfl
@[go_sem] theorem eqok_71 : eqOk Try.prog 71 [2, 0, 0, 0, 0, 2] = true := by kernel_rfl
@[go_sem] theorem eqok_62 : eqOk Try.prog 62 [0, 0, 2] = true := by kernel_rfl
@[go_sem] theorem eqok_72 : eqOk Try.prog 72 [0, 0, 2] = true := by kernel_rfl
end Go.Ve
