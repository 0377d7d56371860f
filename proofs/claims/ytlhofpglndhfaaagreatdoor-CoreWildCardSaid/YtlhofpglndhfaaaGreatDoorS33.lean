/- Joined texts. -/
import Derived.Test.YtlhofpglndhfaaaGreatDoorProg
import Derived.KernelRfl
import Derived.Test.YtlhofpglndhfaaaGreatDoorS1
import Derived.Test.YtlhofpglndhfaaaGreatDoorS7
import Derived.Test.YtlhofpglndhfaaaGreatDoorS15
import Derived.Test.YtlhofpglndhfaaaGreatDoorS16
import Derived.Test.YtlhofpglndhfaaaGreatDoorS17
import Derived.Test.YtlhofpglndhfaaaGreatDoorS18
import Derived.Test.YtlhofpglndhfaaaGreatDoorS19
import Derived.Test.YtlhofpglndhfaaaGreatDoorS31
import Derived.Test.YtlhofpglndhfaaaGreatDoorS32
namespace Go.Proofs.YtlhofpglndhfaaaGreatDoor
open Go.RowKit
set_option maxRecDepth 100000
theorem cT(inf:TypeInfo){t:TypeId}{i:TI}{d:TypeDesc}(hd:Tryz.prog.underlying t=some d)
  (hk:match i.kd with
  | .bool=>d=.bool
  | .int k=>d=.int k
  | .string=>d=.string
  | .slice e=>d=.slice e
  | .array n e=>d=.array n e
  | .struct fs=>∃ fields,d=.struct fields∧fields.toList.map (λ f=>(f.offset,f.type))=fs∧(fields.toList.all λ f=>match Tryz.prog.info? f.type with|some i=> !(i.size==0)|none=>false)=true
  |_=>True) (he:i.eq≠[]→PB Tryz.prog t i.eq:=by exact λ h=>absurd rfl h) (h1:Tryz.prog.info? t=some inf:=by kernel_rfl) (h2:inf.zero=some (inf.zero.getD .nilFunc):=by rfl) (h3:i.zero=HQ (inf.zero.getD .nilFunc):=by rfl) (hc:NF Tryz.prog inf (inf.zero.getD .nilFunc) i=true:=by kernel_rfl) (hrow:d.isRow=i.ag:=by rfl):TyOk Tryz.prog t i:=
 KZ h1 h2 h3 hc hd hrow hk he
abbrev RV:TI:=⟨.int .u32,1,false,.v (.int .u32 0),4,[]⟩
set_option maxRecDepth 100000
abbrev SJ:TI:=⟨.func,1,false,.v .nilFunc,8,[]⟩
def tys:TT:=.node 121 (.node 65 (.node 37 (.node 25 (.node 12 (.node 4 (.node 2 (.leaf 1 SJ) (.node 3 (.leaf 2 ⟨.int .i64,1,false,.v (.int .i64 0),8,[]⟩) (.leaf 3 ⟨.int .i64,1,false,.v (.int .i64 0),8,[]⟩))) (.node 5 (.leaf 4 ⟨.bool,1,false,.v (.bool false),1,[]⟩) (.node 9 (.leaf 5 ⟨.int .u8,1,false,.v (.int .u8 0),1,[]⟩) (.leaf 9 ⟨.string,1,false,.v (.string ⟨#[]⟩),16,[]⟩)))) (.node 22 (.node 13 (.leaf 12 ⟨.int .u64,1,false,.v (.int .u64 0),8,[]⟩) (.node 21 (.leaf 13 ⟨.struct [(0,9),(1,12)],2,true,.agg [.v (.string ⟨#[]⟩),.v (.int .u64 0)],24,[]⟩) (.leaf 21 ⟨.int .i32,1,false,.v (.int .i32 0),4,[]⟩))) (.node 23 (.leaf 22 ⟨.slice 3,1,false,.sl 0 [] true,24,[]⟩) (.node 24 (.leaf 23 ⟨.slice 26,1,false,.sl 0 [] true,24,[]⟩) (.leaf 24 ⟨.struct [(0,3),(1,3),(2,3),(3,3),(4,3),(5,3),(6,3),(7,3),(8,22),(9,4),(10,23)],11,true,.agg [.v (.int .i64 0),.v (.int .i64 0),.v (.int .i64 0),.v (.int .i64 0),.v (.int .i64 0),.v (.int .i64 0),.v (.int .i64 0),.v (.int .i64 0),.sl 0 [] true,.v (.bool false),.sl 0 [] true],120,[]⟩))))) (.node 31 (.node 28 (.node 26 (.leaf 25 ⟨.struct [(0,3),(1,3),(2,3),(3,3),(4,3),(5,3),(6,3),(7,3),(8,22),(9,4),(10,23)],11,true,.agg [.v (.int .i64 0),.v (.int .i64 0),.v (.int .i64 0),.v (.int .i64 0),.v (.int .i64 0),.v (.int .i64 0),.v (.int .i64 0),.v (.int .i64 0),.sl 0 [] true,.v (.bool false),.sl 0 [] true],120,[]⟩) (.node 27 (.leaf 26 RV) (.leaf 27 ⟨.array 32 26,32,true,.agg [zU,zU,zU,zU,zU,zU,zU,zU,zU,zU,zU,zU,zU,zU,zU,zU,zU,zU,zU,zU,zU,zU,zU,zU,zU,zU,zU,zU,zU,zU,zU,zU],128,[.i,.i,.i,.i,.i,.i,.i,.i,.i,.i,.i,.i,.i,.i,.i,.i,.i,.i,.i,.i,.i,.i,.i,.i,.i,.i,.i,.i,.i,.i,.i,.i]⟩))) (.node 29 (.leaf 28 ⟨.slice 127,1,false,.sl 0 [] true,24,[]⟩) (.node 30 (.leaf 29 ⟨.slice 95,1,false,.sl 0 [] true,24,[]⟩) (.leaf 30 ⟨.slice 99,1,false,.sl 0 [] true,24,[]⟩)))) (.node 34 (.node 32 (.leaf 31 ⟨.slice 78,1,false,.sl 0 [] true,24,[]⟩) (.node 33 (.leaf 32 ⟨.struct [(0,3),(1,31)],2,true,.agg [.v (.int .i64 0),.sl 0 [] true],32,[]⟩) (.leaf 33 ⟨.struct [(0,3),(1,31)],2,true,.agg [.v (.int .i64 0),.sl 0 [] true],32,[]⟩))) (.node 35 (.leaf 34 ⟨.slice 69,1,false,.sl 0 [] true,24,[]⟩) (.node 36 (.leaf 35 ⟨.slice 88,1,false,.sl 0 [] true,24,[]⟩) (.leaf 36 ⟨.struct [(0,35),(1,26),(2,23)],3,true,.agg [.sl 0 [] true,zU,.sl 0 [] true],56,[]⟩)))))) (.node 49 (.node 43 (.node 40 (.node 38 (.leaf 37 ⟨.struct [(0,35),(1,26),(2,23)],3,true,.agg [.sl 0 [] true,zU,.sl 0 [] true],56,[]⟩) (.node 39 (.leaf 38 ⟨.slice 57,1,false,.sl 0 [] true,24,[]⟩) (.leaf 39 ⟨.struct [(0,25),(11,23),(12,3),(13,27),(45,26),(46,4),(47,28),(48,29),(49,3),(50,30),(51,33),(53,33),(55,34),(56,3),(57,3),(58,9),(59,37),(62,3),(63,38)],64,true,.agg [.v (.int .i64 0),.v (.int .i64 0),.v (.int .i64 0),.v (.int .i64 0),.v (.int .i64 0),.v (.int .i64 0),.v (.int .i64 0),.v (.int .i64 0),.sl 0 [] true,.v (.bool false),.sl 0 [] true,.sl 0 [] true,.v (.int .i64 0),zU,zU,zU,zU,zU,zU,zU,zU,zU,zU,zU,zU,zU,zU,zU,zU,zU,zU,zU,zU,zU,zU,zU,zU,zU,zU,zU,zU,zU,zU,zU,zU,zU,.v (.bool false),.sl 0 [] true,.sl 0 [] true,.v (.int .i64 0),.sl 0 [] true,.v (.int .i64 0),.sl 0 [] true,.v (.int .i64 0),.sl 0 [] true,.sl 0 [] true,.v (.int .i64 0),.v (.int .i64 0),.v (.string ⟨#[]⟩),.sl 0 [] true,zU,.sl 0 [] true,.v (.int .i64 0),.sl 0 [] true],576,[]⟩))) (.node 41 (.leaf 40 ⟨.struct [(0,25),(11,23),(12,3),(13,27),(45,26),(46,4),(47,28),(48,29),(49,3),(50,30),(51,33),(53,33),(55,34),(56,3),(57,3),(58,9),(59,37),(62,3),(63,38)],64,true,.agg [.v (.int .i64 0),.v (.int .i64 0),.v (.int .i64 0),.v (.int .i64 0),.v (.int .i64 0),.v (.int .i64 0),.v (.int .i64 0),.v (.int .i64 0),.sl 0 [] true,.v (.bool false),.sl 0 [] true,.sl 0 [] true,.v (.int .i64 0),zU,zU,zU,zU,zU,zU,zU,zU,zU,zU,zU,zU,zU,zU,zU,zU,zU,zU,zU,zU,zU,zU,zU,zU,zU,zU,zU,zU,zU,zU,zU,zU,zU,.v (.bool false),.sl 0 [] true,.sl 0 [] true,.v (.int .i64 0),.sl 0 [] true,.v (.int .i64 0),.sl 0 [] true,.v (.int .i64 0),.sl 0 [] true,.sl 0 [] true,.v (.int .i64 0),.v (.int .i64 0),.v (.string ⟨#[]⟩),.sl 0 [] true,zU,.sl 0 [] true,.v (.int .i64 0),.sl 0 [] true],576,[]⟩) (.node 42 (.leaf 41 SJ) (.leaf 42 SJ)))) (.node 46 (.node 44 (.leaf 43 SJ) (.node 45 (.leaf 44 SJ) (.leaf 45 SJ))) (.node 47 (.leaf 46 SJ) (.node 48 (.leaf 47 SJ) (.leaf 48 SJ))))) (.node 56 (.node 53 (.node 50 (.leaf 49 SJ) (.node 52 (.leaf 50 SJ) (.leaf 52 SJ))) (.node 54 (.leaf 53 ⟨.struct [(0,26),(1,27),(33,9),(34,3)],35,true,.agg [zU,zU,zU,zU,zU,zU,zU,zU,zU,zU,zU,zU,zU,zU,zU,zU,zU,zU,zU,zU,zU,zU,zU,zU,zU,zU,zU,zU,zU,zU,zU,zU,zU,.v (.string ⟨#[]⟩),.v (.int .i64 0)],160,[]⟩) (.node 55 (.leaf 54 ⟨.struct [(0,26),(1,27),(33,9),(34,3)],35,true,.agg [zU,zU,zU,zU,zU,zU,zU,zU,zU,zU,zU,zU,zU,zU,zU,zU,zU,zU,zU,zU,zU,zU,zU,zU,zU,zU,zU,zU,zU,zU,zU,zU,zU,.v (.string ⟨#[]⟩),.v (.int .i64 0)],160,[.i,.i,.i,.i,.i,.i,.i,.i,.i,.i,.i,.i,.i,.i,.i,.i,.i,.i,.i,.i,.i,.i,.i,.i,.i,.i,.i,.i,.i,.i,.i,.i,.i,.s,.i]⟩) (.leaf 55 SJ)))) (.node 60 (.node 57 (.leaf 56 ⟨.struct [(0,26),(1,26),(2,3),(3,26),(4,26),(5,3),(6,4),(7,3),(8,3)],9,true,.agg [zU,zU,.v (.int .i64 0),zU,zU,.v (.int .i64 0),.v (.bool false),.v (.int .i64 0),.v (.int .i64 0)],56,[]⟩) (.node 59 (.leaf 57 ⟨.struct [(0,26),(1,26),(2,3),(3,26),(4,26),(5,3),(6,4),(7,3),(8,3)],9,true,.agg [zU,zU,.v (.int .i64 0),zU,zU,.v (.int .i64 0),.v (.bool false),.v (.int .i64 0),.v (.int .i64 0)],56,[.i,.i,.i,.i,.i,.i,.b,.i,.i]⟩) (.leaf 59 SJ))) (.node 61 (.leaf 60 SJ) (.node 63 (.leaf 61 SJ) (.leaf 63 SJ))))))) (.node 92 (.node 80 (.node 71 (.node 68 (.node 66 (.leaf 65 SJ) (.node 67 (.leaf 66 SJ) (.leaf 67 SJ))) (.node 69 (.leaf 68 ⟨.struct [(0,3),(1,26),(2,3),(3,9)],4,true,.agg [.v (.int .i64 0),zU,.v (.int .i64 0),.v (.string ⟨#[]⟩)],40,[]⟩) (.node 70 (.leaf 69 ⟨.struct [(0,3),(1,26),(2,3),(3,9)],4,true,.agg [.v (.int .i64 0),zU,.v (.int .i64 0),.v (.string ⟨#[]⟩)],40,[.i,.i,.i,.s]⟩) (.leaf 70 SJ)))) (.node 76 (.node 74 (.leaf 71 ⟨.slice 76,1,false,.sl 0 [] true,24,[]⟩) (.node 75 (.leaf 74 SJ) (.leaf 75 ⟨.struct [(0,31),(1,31),(2,34),(3,23)],4,true,.agg [.sl 0 [] true,.sl 0 [] true,.sl 0 [] true,.sl 0 [] true],96,[]⟩))) (.node 78 (.leaf 76 ⟨.struct [(0,31),(1,31),(2,34),(3,23)],4,true,.agg [.sl 0 [] true,.sl 0 [] true,.sl 0 [] true,.sl 0 [] true],96,[]⟩) (.node 79 (.leaf 78 ⟨.slice 80,1,false,.sl 0 [] true,24,[]⟩) (.leaf 79 ⟨.struct [(0,26),(1,4),(2,9)],3,true,.agg [zU,.v (.bool false),.v (.string ⟨#[]⟩)],24,[]⟩))))) (.node 86 (.node 83 (.node 81 (.leaf 80 ⟨.struct [(0,26),(1,4),(2,9)],3,true,.agg [zU,.v (.bool false),.v (.string ⟨#[]⟩)],24,[.i,.b,.s]⟩) (.node 82 (.leaf 81 SJ) (.leaf 82 SJ))) (.node 84 (.leaf 83 SJ) (.node 85 (.leaf 84 SJ) (.leaf 85 SJ)))) (.node 89 (.node 87 (.leaf 86 SJ) (.node 88 (.leaf 87 ⟨.struct [(0,26),(1,26)],2,true,.agg [zU,zU],8,[]⟩) (.leaf 88 ⟨.struct [(0,26),(1,26)],2,true,.agg [zU,zU],8,[.i,.i]⟩))) (.node 90 (.leaf 89 ⟨.slice 5,1,false,.sl 0 [] true,24,[]⟩) (.node 91 (.leaf 90 SJ) (.leaf 91 SJ)))))) (.node 104 (.node 98 (.node 95 (.node 93 (.leaf 92 ⟨.struct [(0,3),(1,3),(2,3),(3,3),(4,26)],5,true,.agg [.v (.int .i64 0),.v (.int .i64 0),.v (.int .i64 0),.v (.int .i64 0),zU],40,[]⟩) (.node 94 (.leaf 93 ⟨.struct [(0,3),(1,3),(2,3),(3,3),(4,26)],5,true,.agg [.v (.int .i64 0),.v (.int .i64 0),.v (.int .i64 0),.v (.int .i64 0),zU],40,[.i,.i,.i,.i,.i]⟩) (.leaf 94 ⟨.struct [(0,3),(1,26),(2,93),(7,26),(8,3),(9,3),(10,26),(11,26),(12,26),(13,3),(14,3),(15,4),(16,4)],17,true,.agg [.v (.int .i64 0),zU,.v (.int .i64 0),.v (.int .i64 0),.v (.int .i64 0),.v (.int .i64 0),zU,zU,.v (.int .i64 0),.v (.int .i64 0),zU,zU,zU,.v (.int .i64 0),.v (.int .i64 0),.v (.bool false),.v (.bool false)],120,[]⟩))) (.node 96 (.leaf 95 ⟨.struct [(0,3),(1,26),(2,93),(7,26),(8,3),(9,3),(10,26),(11,26),(12,26),(13,3),(14,3),(15,4),(16,4)],17,true,.agg [.v (.int .i64 0),zU,.v (.int .i64 0),.v (.int .i64 0),.v (.int .i64 0),.v (.int .i64 0),zU,zU,.v (.int .i64 0),.v (.int .i64 0),zU,zU,zU,.v (.int .i64 0),.v (.int .i64 0),.v (.bool false),.v (.bool false)],120,[.i,.i,.i,.i,.i,.i,.i,.i,.i,.i,.i,.i,.i,.i,.i,.b,.b]⟩) (.node 97 (.leaf 96 SJ) (.leaf 97 SJ)))) (.node 101 (.node 99 (.leaf 98 ⟨.struct [(0,26),(1,9)],2,true,.agg [zU,.v (.string ⟨#[]⟩)],24,[]⟩) (.node 100 (.leaf 99 ⟨.struct [(0,26),(1,9)],2,true,.agg [zU,.v (.string ⟨#[]⟩)],24,[.i,.s]⟩) (.leaf 100 SJ))) (.node 102 (.leaf 101 ⟨.struct [(0,40)],64,true,.agg [.v (.int .i64 0),.v (.int .i64 0),.v (.int .i64 0),.v (.int .i64 0),.v (.int .i64 0),.v (.int .i64 0),.v (.int .i64 0),.v (.int .i64 0),.sl 0 [] true,.v (.bool false),.sl 0 [] true,.sl 0 [] true,.v (.int .i64 0),zU,zU,zU,zU,zU,zU,zU,zU,zU,zU,zU,zU,zU,zU,zU,zU,zU,zU,zU,zU,zU,zU,zU,zU,zU,zU,zU,zU,zU,zU,zU,zU,zU,.v (.bool false),.sl 0 [] true,.sl 0 [] true,.v (.int .i64 0),.sl 0 [] true,.v (.int .i64 0),.sl 0 [] true,.v (.int .i64 0),.sl 0 [] true,.sl 0 [] true,.v (.int .i64 0),.v (.int .i64 0),.v (.string ⟨#[]⟩),.sl 0 [] true,zU,.sl 0 [] true,.v (.int .i64 0),.sl 0 [] true],576,[]⟩) (.node 103 (.leaf 102 ⟨.struct [(0,40)],64,true,.agg [.v (.int .i64 0),.v (.int .i64 0),.v (.int .i64 0),.v (.int .i64 0),.v (.int .i64 0),.v (.int .i64 0),.v (.int .i64 0),.v (.int .i64 0),.sl 0 [] true,.v (.bool false),.sl 0 [] true,.sl 0 [] true,.v (.int .i64 0),zU,zU,zU,zU,zU,zU,zU,zU,zU,zU,zU,zU,zU,zU,zU,zU,zU,zU,zU,zU,zU,zU,zU,zU,zU,zU,zU,zU,zU,zU,zU,zU,zU,.v (.bool false),.sl 0 [] true,.sl 0 [] true,.v (.int .i64 0),.sl 0 [] true,.v (.int .i64 0),.sl 0 [] true,.v (.int .i64 0),.sl 0 [] true,.sl 0 [] true,.v (.int .i64 0),.v (.int .i64 0),.v (.string ⟨#[]⟩),.sl 0 [] true,zU,.sl 0 [] true,.v (.int .i64 0),.sl 0 [] true],576,[]⟩) (.leaf 103 SJ))))) (.node 112 (.node 108 (.node 105 (.leaf 104 ⟨.pointer,1,false,.v (.pointer none),8,[]⟩) (.node 107 (.leaf 105 ⟨.array 7 103,7,true,.agg [.v .nilFunc,.v .nilFunc,.v .nilFunc,.v .nilFunc,.v .nilFunc,.v .nilFunc,.v .nilFunc],56,[]⟩) (.leaf 107 SJ))) (.node 109 (.leaf 108 SJ) (.node 111 (.leaf 109 ⟨.int .i64,1,false,.v (.int .i64 0),8,[]⟩) (.leaf 111 SJ)))) (.node 116 (.node 113 (.leaf 112 SJ) (.node 114 (.leaf 113 SJ) (.leaf 114 SJ))) (.node 119 (.node 117 (.leaf 116 SJ) (.leaf 117 SJ)) (.node 120 (.leaf 119 SJ) (.leaf 120 SJ)))))))) (.node 200 (.node 160 (.node 145 (.node 131 (.node 126 (.node 122 (.leaf 121 SJ) (.node 125 (.leaf 122 SJ) (.leaf 125 SJ))) (.node 127 (.leaf 126 ⟨.struct [(0,26),(1,26)],2,true,.agg [zU,zU],8,[]⟩) (.node 130 (.leaf 127 ⟨.struct [(0,26),(1,26)],2,true,.agg [zU,zU],8,[.i,.i]⟩) (.leaf 130 ⟨.pointer,1,false,.v (.pointer none),8,[]⟩)))) (.node 134 (.node 132 (.leaf 131 SJ) (.node 133 (.leaf 132 SJ) (.leaf 133 SJ))) (.node 135 (.leaf 134 SJ) (.node 138 (.leaf 135 ⟨.int .u64,1,false,.v (.int .u64 0),8,[]⟩) (.leaf 138 SJ))))) (.node 153 (.node 149 (.node 147 (.leaf 145 SJ) (.node 148 (.leaf 147 SJ) (.leaf 148 SJ))) (.node 150 (.leaf 149 SJ) (.node 152 (.leaf 150 SJ) (.leaf 152 SJ)))) (.node 156 (.node 154 (.leaf 153 SJ) (.node 155 (.leaf 154 SJ) (.leaf 155 SJ))) (.node 157 (.leaf 156 SJ) (.node 159 (.leaf 157 SJ) (.leaf 159 SJ)))))) (.node 174 (.node 166 (.node 163 (.node 161 (.leaf 160 SJ) (.node 162 (.leaf 161 SJ) (.leaf 162 ⟨.slice 4,1,false,.sl 0 [] true,24,[]⟩))) (.node 164 (.leaf 163 SJ) (.node 165 (.leaf 164 SJ) (.leaf 165 SJ)))) (.node 170 (.node 168 (.leaf 166 SJ) (.node 169 (.leaf 168 SJ) (.leaf 169 SJ))) (.node 171 (.leaf 170 SJ) (.node 172 (.leaf 171 SJ) (.leaf 172 SJ))))) (.node 193 (.node 190 (.node 178 (.leaf 174 SJ) (.node 180 (.leaf 178 SJ) (.leaf 180 SJ))) (.node 191 (.leaf 190 SJ) (.node 192 (.leaf 191 SJ) (.leaf 192 SJ)))) (.node 197 (.node 194 (.leaf 193 SJ) (.node 195 (.leaf 194 SJ) (.leaf 195 SJ))) (.node 198 (.leaf 197 SJ) (.node 199 (.leaf 198 SJ) (.leaf 199 SJ))))))) (.node 228 (.node 215 (.node 207 (.node 204 (.node 202 (.leaf 200 SJ) (.node 203 (.leaf 202 SJ) (.leaf 203 SJ))) (.node 205 (.leaf 204 SJ) (.node 206 (.leaf 205 SJ) (.leaf 206 SJ)))) (.node 212 (.node 209 (.leaf 207 SJ) (.node 211 (.leaf 209 SJ) (.leaf 211 SJ))) (.node 213 (.leaf 212 SJ) (.node 214 (.leaf 213 SJ) (.leaf 214 SJ))))) (.node 222 (.node 219 (.node 216 (.leaf 215 SJ) (.node 218 (.leaf 216 SJ) (.leaf 218 SJ))) (.node 220 (.leaf 219 SJ) (.node 221 (.leaf 220 SJ) (.leaf 221 SJ)))) (.node 225 (.node 223 (.leaf 222 SJ) (.node 224 (.leaf 223 SJ) (.leaf 224 SJ))) (.node 226 (.leaf 225 SJ) (.node 227 (.leaf 226 SJ) (.leaf 227 SJ)))))) (.node 252 (.node 236 (.node 232 (.node 229 (.leaf 228 SJ) (.node 230 (.leaf 229 SJ) (.leaf 230 ⟨.slice 255,1,false,.sl 0 [] true,24,[]⟩))) (.node 233 (.leaf 232 SJ) (.node 234 (.leaf 233 ⟨.array 49 26,49,true,.agg [zU,zU,zU,zU,zU,zU,zU,zU,zU,zU,zU,zU,zU,zU,zU,zU,zU,zU,zU,zU,zU,zU,zU,zU,zU,zU,zU,zU,zU,zU,zU,zU,zU,zU,zU,zU,zU,zU,zU,zU,zU,zU,zU,zU,zU,zU,zU,zU,zU],196,[]⟩) (.leaf 234 SJ)))) (.node 242 (.node 237 (.leaf 236 SJ) (.node 239 (.leaf 237 SJ) (.leaf 239 SJ))) (.node 243 (.leaf 242 SJ) (.node 247 (.leaf 243 SJ) (.leaf 247 SJ))))) (.node 261 (.node 255 (.node 253 (.leaf 252 SJ) (.node 254 (.leaf 253 ⟨.int .u64,1,false,.v (.int .u64 0),8,[]⟩) (.leaf 254 ⟨.struct [(0,3),(1,3)],2,true,.agg [.v (.int .i64 0),.v (.int .i64 0)],16,[]⟩))) (.node 258 (.leaf 255 ⟨.struct [(0,3),(1,3)],2,true,.agg [.v (.int .i64 0),.v (.int .i64 0)],16,[]⟩) (.node 260 (.leaf 258 SJ) (.leaf 260 SJ)))) (.node 267 (.node 263 (.leaf 261 SJ) (.node 264 (.leaf 263 ⟨.struct [(0,26),(1,3),(2,9),(3,4)],4,true,.agg [zU,.v (.int .i64 0),.v (.string ⟨#[]⟩),.v (.bool false)],40,[]⟩) (.leaf 264 ⟨.struct [(0,26),(1,3),(2,9),(3,4)],4,true,.agg [zU,.v (.int .i64 0),.v (.string ⟨#[]⟩),.v (.bool false)],40,[]⟩))) (.node 279 (.node 268 (.leaf 267 SJ) (.leaf 268 SJ)) (.node 280 (.leaf 279 SJ) (.leaf 280 ⟨.pointer,1,false,.v (.pointer none),8,[]⟩))))))))
theorem RL:KY Tryz.prog tys:=⟨⟨⟨⟨⟨⟨⟨cT Tryz.t1 Tryz.underlying1 trivial,⟨cT Tryz.t2 Tryz.underlying2 rfl,cT Tryz.t3 Tryz.underlying3 rfl⟩⟩,⟨cT Tryz.t4 Tryz.underlying4 rfl,⟨cT Tryz.t5 Tryz.underlying5 rfl,cT Tryz.t9 Tryz.underlying9 rfl⟩⟩⟩,⟨⟨cT Tryz.t12 Tryz.underlying12 rfl,⟨cT Tryz.t13 Tryz.underlying13 ⟨_,rfl,by kernel_rfl,by kernel_rfl⟩,cT Tryz.t21 Tryz.underlying21 rfl⟩⟩,⟨cT Tryz.t22 Tryz.underlying22 rfl,⟨cT Tryz.t23 Tryz.underlying23 rfl,cT Tryz.t24 Tryz.underlying24 ⟨_,rfl,by kernel_rfl,by kernel_rfl⟩⟩⟩⟩⟩,⟨⟨⟨cT Tryz.t25 Tryz.underlying25 ⟨_,rfl,by kernel_rfl,by kernel_rfl⟩,⟨cT Tryz.t26 Tryz.underlying26 rfl,cT Tryz.t27 Tryz.underlying27 rfl (λ _=>KX (d:=20) (inf:=Tryz.t26) (ks':=[.i]) Tryz.underlying27 (by kernel_rfl) (by kernel_rfl) (by kernel_rfl) (by kernel_rfl) (by kernel_rfl))⟩⟩,⟨cT Tryz.t28 Tryz.underlying28 rfl,⟨cT Tryz.t29 Tryz.underlying29 rfl,cT Tryz.t30 Tryz.underlying30 rfl⟩⟩⟩,⟨⟨cT Tryz.t31 Tryz.underlying31 rfl,⟨cT Tryz.t32 Tryz.underlying32 ⟨_,rfl,by kernel_rfl,by kernel_rfl⟩,cT Tryz.t33 Tryz.underlying33 ⟨_,rfl,by kernel_rfl,by kernel_rfl⟩⟩⟩,⟨cT Tryz.t34 Tryz.underlying34 rfl,⟨cT Tryz.t35 Tryz.underlying35 rfl,cT Tryz.t36 Tryz.underlying36 ⟨_,rfl,by kernel_rfl,by kernel_rfl⟩⟩⟩⟩⟩⟩,⟨⟨⟨⟨cT Tryz.t37 Tryz.underlying37 ⟨_,rfl,by kernel_rfl,by kernel_rfl⟩,⟨cT Tryz.t38 Tryz.underlying38 rfl,cT Tryz.t39 Tryz.underlying39 ⟨_,rfl,by kernel_rfl,by kernel_rfl⟩⟩⟩,⟨cT Tryz.t40 Tryz.underlying40 ⟨_,rfl,by kernel_rfl,by kernel_rfl⟩,⟨cT Tryz.t41 Tryz.underlying41 trivial,cT Tryz.t42 Tryz.underlying42 trivial⟩⟩⟩,⟨⟨cT Tryz.t43 Tryz.underlying43 trivial,⟨cT Tryz.t44 Tryz.underlying44 trivial,cT Tryz.t45 Tryz.underlying45 trivial⟩⟩,⟨cT Tryz.t46 Tryz.underlying46 trivial,⟨cT Tryz.t47 Tryz.underlying47 trivial,cT Tryz.t48 Tryz.underlying48 trivial⟩⟩⟩⟩,⟨⟨⟨cT Tryz.t49 Tryz.underlying49 trivial,⟨cT Tryz.t50 Tryz.underlying50 trivial,cT Tryz.t52 Tryz.underlying52 trivial⟩⟩,⟨cT Tryz.t53 Tryz.underlying53 ⟨_,rfl,by kernel_rfl,by kernel_rfl⟩,⟨cT Tryz.t54 Tryz.underlying54 ⟨_,rfl,by kernel_rfl,by kernel_rfl⟩ (λ _=>oY (d:=20) (by kernel_rfl)),cT Tryz.t55 Tryz.underlying55 trivial⟩⟩⟩,⟨⟨cT Tryz.t56 Tryz.underlying56 ⟨_,rfl,by kernel_rfl,by kernel_rfl⟩,⟨cT Tryz.t57 Tryz.underlying57 ⟨_,rfl,by kernel_rfl,by kernel_rfl⟩ (λ _=>oY (d:=20) (by kernel_rfl)),cT Tryz.t59 Tryz.underlying59 trivial⟩⟩,⟨cT Tryz.t60 Tryz.underlying60 trivial,⟨cT Tryz.t61 Tryz.underlying61 trivial,cT Tryz.t63 Tryz.underlying63 trivial⟩⟩⟩⟩⟩⟩,⟨⟨⟨⟨⟨cT Tryz.t65 Tryz.underlying65 trivial,⟨cT Tryz.t66 Tryz.underlying66 trivial,cT Tryz.t67 Tryz.underlying67 trivial⟩⟩,⟨cT Tryz.t68 Tryz.underlying68 ⟨_,rfl,by kernel_rfl,by kernel_rfl⟩,⟨cT Tryz.t69 Tryz.underlying69 ⟨_,rfl,by kernel_rfl,by kernel_rfl⟩ (λ _=>oY (d:=20) (by kernel_rfl)),cT Tryz.t70 Tryz.underlying70 trivial⟩⟩⟩,⟨⟨cT Tryz.t71 Tryz.underlying71 rfl,⟨cT Tryz.t74 Tryz.underlying74 trivial,cT Tryz.t75 Tryz.underlying75 ⟨_,rfl,by kernel_rfl,by kernel_rfl⟩⟩⟩,⟨cT Tryz.t76 Tryz.underlying76 ⟨_,rfl,by kernel_rfl,by kernel_rfl⟩,⟨cT Tryz.t78 Tryz.underlying78 rfl,cT Tryz.t79 Tryz.underlying79 ⟨_,rfl,by kernel_rfl,by kernel_rfl⟩⟩⟩⟩⟩,⟨⟨⟨cT Tryz.t80 Tryz.underlying80 ⟨_,rfl,by kernel_rfl,by kernel_rfl⟩ (λ _=>oY (d:=20) (by kernel_rfl)),⟨cT Tryz.t81 Tryz.underlying81 trivial,cT Tryz.t82 Tryz.underlying82 trivial⟩⟩,⟨cT Tryz.t83 Tryz.underlying83 trivial,⟨cT Tryz.t84 Tryz.underlying84 trivial,cT Tryz.t85 Tryz.underlying85 trivial⟩⟩⟩,⟨⟨cT Tryz.t86 Tryz.underlying86 trivial,⟨cT Tryz.t87 Tryz.underlying87 ⟨_,rfl,by kernel_rfl,by kernel_rfl⟩,cT Tryz.t88 Tryz.underlying88 ⟨_,rfl,by kernel_rfl,by kernel_rfl⟩ (λ _=>oY (d:=20) (by kernel_rfl))⟩⟩,⟨cT Tryz.t89 Tryz.underlying89 rfl,⟨cT Tryz.t90 Tryz.underlying90 trivial,cT Tryz.t91 Tryz.underlying91 trivial⟩⟩⟩⟩⟩,⟨⟨⟨⟨cT Tryz.t92 Tryz.underlying92 ⟨_,rfl,by kernel_rfl,by kernel_rfl⟩,⟨cT Tryz.t93 Tryz.underlying93 ⟨_,rfl,by kernel_rfl,by kernel_rfl⟩ (λ _=>oY (d:=20) (by kernel_rfl)),cT Tryz.t94 Tryz.underlying94 ⟨_,rfl,by kernel_rfl,by kernel_rfl⟩⟩⟩,⟨cT Tryz.t95 Tryz.underlying95 ⟨_,rfl,by kernel_rfl,by kernel_rfl⟩ (λ _=>oY (d:=20) (by kernel_rfl)),⟨cT Tryz.t96 Tryz.underlying96 trivial,cT Tryz.t97 Tryz.underlying97 trivial⟩⟩⟩,⟨⟨cT Tryz.t98 Tryz.underlying98 ⟨_,rfl,by kernel_rfl,by kernel_rfl⟩,⟨cT Tryz.t99 Tryz.underlying99 ⟨_,rfl,by kernel_rfl,by kernel_rfl⟩ (λ _=>oY (d:=20) (by kernel_rfl)),cT Tryz.t100 Tryz.underlying100 trivial⟩⟩,⟨cT Tryz.t101 Tryz.underlying101 ⟨_,rfl,by kernel_rfl,by kernel_rfl⟩,⟨cT Tryz.t102 Tryz.underlying102 ⟨_,rfl,by kernel_rfl,by kernel_rfl⟩,cT Tryz.t103 Tryz.underlying103 trivial⟩⟩⟩⟩,⟨⟨⟨cT Tryz.t104 Tryz.underlying104 trivial,⟨cT Tryz.t105 Tryz.underlying105 rfl,cT Tryz.t107 Tryz.underlying107 trivial⟩⟩,⟨cT Tryz.t108 Tryz.underlying108 trivial,⟨cT Tryz.t109 Tryz.underlying109 rfl,cT Tryz.t111 Tryz.underlying111 trivial⟩⟩⟩,⟨⟨cT Tryz.t112 Tryz.underlying112 trivial,⟨cT Tryz.t113 Tryz.underlying113 trivial,cT Tryz.t114 Tryz.underlying114 trivial⟩⟩,⟨⟨cT Tryz.t116 Tryz.underlying116 trivial,cT Tryz.t117 Tryz.underlying117 trivial⟩,⟨cT Tryz.t119 Tryz.underlying119 trivial,cT Tryz.t120 Tryz.underlying120 trivial⟩⟩⟩⟩⟩⟩⟩,⟨⟨⟨⟨⟨⟨cT Tryz.t121 Tryz.underlying121 trivial,⟨cT Tryz.t122 Tryz.underlying122 trivial,cT Tryz.t125 Tryz.underlying125 trivial⟩⟩,⟨cT Tryz.t126 Tryz.underlying126 ⟨_,rfl,by kernel_rfl,by kernel_rfl⟩,⟨cT Tryz.t127 Tryz.underlying127 ⟨_,rfl,by kernel_rfl,by kernel_rfl⟩ (λ _=>oY (d:=20) (by kernel_rfl)),cT Tryz.t130 Tryz.underlying130 trivial⟩⟩⟩,⟨⟨cT Tryz.t131 Tryz.underlying131 trivial,⟨cT Tryz.t132 Tryz.underlying132 trivial,cT Tryz.t133 Tryz.underlying133 trivial⟩⟩,⟨cT Tryz.t134 Tryz.underlying134 trivial,⟨cT Tryz.t135 Tryz.underlying135 rfl,cT Tryz.t138 Tryz.underlying138 trivial⟩⟩⟩⟩,⟨⟨⟨cT Tryz.t145 Tryz.underlying145 trivial,⟨cT Tryz.t147 Tryz.underlying147 trivial,cT Tryz.t148 Tryz.underlying148 trivial⟩⟩,⟨cT Tryz.t149 Tryz.underlying149 trivial,⟨cT Tryz.t150 Tryz.underlying150 trivial,cT Tryz.t152 Tryz.underlying152 trivial⟩⟩⟩,⟨⟨cT Tryz.t153 Tryz.underlying153 trivial,⟨cT Tryz.t154 Tryz.underlying154 trivial,cT Tryz.t155 Tryz.underlying155 trivial⟩⟩,⟨cT Tryz.t156 Tryz.underlying156 trivial,⟨cT Tryz.t157 Tryz.underlying157 trivial,cT Tryz.t159 Tryz.underlying159 trivial⟩⟩⟩⟩⟩,⟨⟨⟨⟨cT Tryz.t160 Tryz.underlying160 trivial,⟨cT Tryz.t161 Tryz.underlying161 trivial,cT Tryz.t162 Tryz.underlying162 rfl⟩⟩,⟨cT Tryz.t163 Tryz.underlying163 trivial,⟨cT Tryz.t164 Tryz.underlying164 trivial,cT Tryz.t165 Tryz.underlying165 trivial⟩⟩⟩,⟨⟨cT Tryz.t166 Tryz.underlying166 trivial,⟨cT Tryz.t168 Tryz.underlying168 trivial,cT Tryz.t169 Tryz.underlying169 trivial⟩⟩,⟨cT Tryz.t170 Tryz.underlying170 trivial,⟨cT Tryz.t171 Tryz.underlying171 trivial,cT Tryz.t172 Tryz.underlying172 trivial⟩⟩⟩⟩,⟨⟨⟨cT Tryz.t174 Tryz.underlying174 trivial,⟨cT Tryz.t178 Tryz.underlying178 trivial,cT Tryz.t180 Tryz.underlying180 trivial⟩⟩,⟨cT Tryz.t190 Tryz.underlying190 trivial,⟨cT Tryz.t191 Tryz.underlying191 trivial,cT Tryz.t192 Tryz.underlying192 trivial⟩⟩⟩,⟨⟨cT Tryz.t193 Tryz.underlying193 trivial,⟨cT Tryz.t194 Tryz.underlying194 trivial,cT Tryz.t195 Tryz.underlying195 trivial⟩⟩,⟨cT Tryz.t197 Tryz.underlying197 trivial,⟨cT Tryz.t198 Tryz.underlying198 trivial,cT Tryz.t199 Tryz.underlying199 trivial⟩⟩⟩⟩⟩⟩,⟨⟨⟨⟨⟨cT Tryz.t200 Tryz.underlying200 trivial,⟨cT Tryz.t202 Tryz.underlying202 trivial,cT Tryz.t203 Tryz.underlying203 trivial⟩⟩,⟨cT Tryz.t204 Tryz.underlying204 trivial,⟨cT Tryz.t205 Tryz.underlying205 trivial,cT Tryz.t206 Tryz.underlying206 trivial⟩⟩⟩,⟨⟨cT Tryz.t207 Tryz.underlying207 trivial,⟨cT Tryz.t209 Tryz.underlying209 trivial,cT Tryz.t211 Tryz.underlying211 trivial⟩⟩,⟨cT Tryz.t212 Tryz.underlying212 trivial,⟨cT Tryz.t213 Tryz.underlying213 trivial,cT Tryz.t214 Tryz.underlying214 trivial⟩⟩⟩⟩,⟨⟨⟨cT Tryz.t215 Tryz.underlying215 trivial,⟨cT Tryz.t216 Tryz.underlying216 trivial,cT Tryz.t218 Tryz.underlying218 trivial⟩⟩,⟨cT Tryz.t219 Tryz.underlying219 trivial,⟨cT Tryz.t220 Tryz.underlying220 trivial,cT Tryz.t221 Tryz.underlying221 trivial⟩⟩⟩,⟨⟨cT Tryz.t222 Tryz.underlying222 trivial,⟨cT Tryz.t223 Tryz.underlying223 trivial,cT Tryz.t224 Tryz.underlying224 trivial⟩⟩,⟨cT Tryz.t225 Tryz.underlying225 trivial,⟨cT Tryz.t226 Tryz.underlying226 trivial,cT Tryz.t227 Tryz.underlying227 trivial⟩⟩⟩⟩⟩,⟨⟨⟨⟨cT Tryz.t228 Tryz.underlying228 trivial,⟨cT Tryz.t229 Tryz.underlying229 trivial,cT Tryz.t230 Tryz.underlying230 rfl⟩⟩,⟨cT Tryz.t232 Tryz.underlying232 trivial,⟨cT Tryz.t233 Tryz.underlying233 rfl,cT Tryz.t234 Tryz.underlying234 trivial⟩⟩⟩,⟨⟨cT Tryz.t236 Tryz.underlying236 trivial,⟨cT Tryz.t237 Tryz.underlying237 trivial,cT Tryz.t239 Tryz.underlying239 trivial⟩⟩,⟨cT Tryz.t242 Tryz.underlying242 trivial,⟨cT Tryz.t243 Tryz.underlying243 trivial,cT Tryz.t247 Tryz.underlying247 trivial⟩⟩⟩⟩,⟨⟨⟨cT Tryz.t252 Tryz.underlying252 trivial,⟨cT Tryz.t253 Tryz.underlying253 rfl,cT Tryz.t254 Tryz.underlying254 ⟨_,rfl,by kernel_rfl,by kernel_rfl⟩⟩⟩,⟨cT Tryz.t255 Tryz.underlying255 ⟨_,rfl,by kernel_rfl,by kernel_rfl⟩,⟨cT Tryz.t258 Tryz.underlying258 trivial,cT Tryz.t260 Tryz.underlying260 trivial⟩⟩⟩,⟨⟨cT Tryz.t261 Tryz.underlying261 trivial,⟨cT Tryz.t263 Tryz.underlying263 ⟨_,rfl,by kernel_rfl,by kernel_rfl⟩,cT Tryz.t264 Tryz.underlying264 ⟨_,rfl,by kernel_rfl,by kernel_rfl⟩⟩⟩,⟨⟨cT Tryz.t267 Tryz.underlying267 trivial,cT Tryz.t268 Tryz.underlying268 trivial⟩,⟨cT Tryz.t279 Tryz.underlying279 trivial,cT Tryz.t280 Tryz.underlying280 trivial⟩⟩⟩⟩⟩⟩⟩⟩
def zJ:List AV:=MX.map λ k=>.v (.int .u32 (k:Nat))
noncomputable def C0:Ctx:={P:=Tryz.prog,ty:=tys.find,G:=λ g=>match g with|0=>some zJ|_=>none,H:=iK Tryz.prog (λ g=>match g with|0=>some zJ|_=>none)}
theorem c0Ok:CtxOk C0:=⟨TT.find_ok tys RL,by kernel_rfl,λ _ _ _ _ _ h=>h⟩
theorem Bc(k:Nat)(hk:k<49):zJ[k]?=some (.v (.int .u32 (code k))):=by
 have:∀ k,k<49→MX[k]?=some (code k):=by decide
 simp only[zJ,Tq,this k hk,TV]
theorem Sm{S:Nat→Prop}{w:World}(h:yD w)(hS:S 0):GOk C0 S w:=λ g cells hg=>by
 match g,hg with
 | 0,hg=>
  injection hg with hg;subst hg;have hget:∀ (j:Nat) a,zJ[j]?=some a→j<49:=λ j a hj=>(WB.1 hj).1;exact .dp zJ.length 0 zJ 0 0 (λ k=>.int .u32 (code k)) rfl hS (λ j a hj=>by rw[Tz];exact h j (hget j a hj)) (λ _=>rfl) λ j a hj=>by
   rw[Bc j (hget j a hj)]at hj;injection hj with hj;subst hj;exact .v _
theorem vO{S:Nat→Prop}{w:World}(h:GOk C0 S w):yD w:=by
 have:=h 0 zJ rfl;generalize hp:Value.pointer (some (⟨0,0,none⟩:Addr))=p at this
 cases this with
 |dp _ _ _ b o u hrs hb hw h1 hr=>
  simp only[Value.pointer.injEq,Option.some.injEq,Addr.mk.injEq]at hp;obtain⟨rfl,ho, -⟩:=hp;obtain rfl:o=0:=by omega
  intro k hk;have e:=Bc k hk;have:=hw k _ e;rw[Tz]at this;rw[this,eO (hr k _ e)]
structure St where
 pc:Nat
 r:Nat→Nat
 mem:ByteArray
 halt:Int
structure Sp where
 pc:Nat
 next:Nat
 rd:Int
 value:Nat
 addr:Nat
 size:Int
 store:Bool
 halt:Int
 took:Int
abbrev stL(pc:Nat)(r:Nat→Nat)(m:ByteArray)(h:Int):List AV:=
 [.v (.int .u32 (pc:Int)),.v (.int .u32 (r 0:Int)),.v (.int .u32 (r 1:Int)),.v (.int .u32 (r 2:Int)),.v (.int .u32 (r 3:Int)),.v (.int .u32 (r 4:Int)),.v (.int .u32 (r 5:Int)),.v (.int .u32 (r 6:Int)),.v (.int .u32 (r 7:Int)),.v (.int .u32 (r 8:Int)),.v (.int .u32 (r 9:Int)),.v (.int .u32 (r 10:Int)),.v (.int .u32 (r 11:Int)),.v (.int .u32 (r 12:Int)),.v (.int .u32 (r 13:Int)),.v (.int .u32 (r 14:Int)),.v (.int .u32 (r 15:Int)),.v (.int .u32 (r 16:Int)),.v (.int .u32 (r 17:Int)),.v (.int .u32 (r 18:Int)),.v (.int .u32 (r 19:Int)),.v (.int .u32 (r 20:Int)),.v (.int .u32 (r 21:Int)),.v (.int .u32 (r 22:Int)),.v (.int .u32 (r 23:Int)),.v (.int .u32 (r 24:Int)),.v (.int .u32 (r 25:Int)),.v (.int .u32 (r 26:Int)),.v (.int .u32 (r 27:Int)),.v (.int .u32 (r 28:Int)),.v (.int .u32 (r 29:Int)),.v (.int .u32 (r 30:Int)),.v (.int .u32 (r 31:Int)),.v (.string m),.v (.int .i64 h)]
abbrev stA(s:St):AV:=.agg (stL s.pc s.r s.mem s.halt)
abbrev spL(x:Sp):List AV:=[.v (.int .u32 (x.pc:Int)),.v (.int .u32 (x.next:Int)),.v (.int .i64 x.rd),.v (.int .u32 (x.value:Int)),.v (.int .u32 (x.addr:Int)),.v (.int .i64 x.size),.v (.bool x.store),.v (.int .i64 x.halt),.v (.int .i64 x.took)]
abbrev spA(x:Sp):AV:=.agg (spL x)
abbrev siA(i:SI):AV:=.agg [.v (.int .i64 i.op),.v (.int .i64 i.rd),.v (.int .i64 i.rs1),.v (.int .i64 i.rs2),.v (.int .u32 (i.imm:Int))]
abbrev two(x:St×Sp):AV:=.tup [stA x.1,spA x.2]
structure St.ok(s:St):Prop where
 pc:s.pc≤4294967295
 r:∀ k,s.r k≤4294967295
 mem:s.mem.size≤256
def OK(r:Nat→Nat)(k v:Nat):Nat→Nat:=λ j=>if j=k then v else r j
def wr(i:SI):Int:=if qI (bF i.op)then i.rd else 0
def fetchP(prog:List Nat)(pc:Nat):Option Nat:=if pc % 4=0 then prog[pc / 4]? else none
def OL(m:ByteArray)(addr n:Nat):ByteArray:=m.extract addr (addr+n)
def up4(pc:Nat):Nat:=(pc+4) % 4294967296
def valB(b n:Nat):Nat:=joinTo (jW b n).data.toList (jW b n).size
def fetchW(prog:List Nat)(pc:Nat):Nat:=(fetchP prog pc).getD 0
def Rj:AV→Option Value
 | .tup cs=>match El cs with|some l=>some (.tuple l.toArray)|none=>none
 |x=>MQ x
theorem Mp{S:Nat→Prop}{w:World}{β:Bt}{a:AV}{u:Value}(h:Rj a=some u):Rep S w β a u:=by
 cases a with
 | tup cs=>
  simp only[Rj]at h;split at h
  ·rename_i l hl;injection h with h;subst h;have:=Bl (S:=S) (w:=w) (β:=β) hl;exact .tup cs l.toArray (by simpa using this.1) λ i a u h1 h2=>this.2 i a u h1 (by simpa using h2)
  ·cases h
 |_=>exact Bi h
theorem aT.of_tupG{C:Ctx}{f:FuncId}{fn:Func}{args:List AV}{vs:List Value}{r:AV}{v:Value}(hf:C.P.funcs[f]?=some fn)(hb:fn.body.isSome=true)(hnm:(fn.name== "runtime.NumGoroutine")=false)
  (ha:El args=some vs) (hr:Rj r=some v) (hc:∀ S w,GOk C S w→Calls C.P f vs.toArray w λ e w'=>e=.returned v∧Below w.heap.size w w'):aT C f args r:=
 ⟨⟨fn,hf,hb,hnm⟩,λ S w us hS hG hu=>by
  rw[Eo ha hu];exact (hc S w hG).mono λ e w' ⟨he,hB⟩=>⟨v,he,hB,Mp hr⟩⟩
theorem aT.of_tup{C:Ctx}{f:FuncId}{fn:Func}{args:List AV}{vs:List Value}{r:AV}{v:Value}(hf:C.P.funcs[f]?=some fn)(hb:fn.body.isSome=true)(hnm:(fn.name== "runtime.NumGoroutine")=false)
  (ha:El args=some vs) (hr:Rj r=some v) (hc:∀ w,Calls C.P f vs.toArray w λ e w'=>e=.returned v∧Below w.heap.size w w'):aT C f args r:=
 .of_tupG hf hb hnm ha hr λ _ w _=>hc w
section
variable (i:SI)
theorem iV:aT C0 99 [siA i] (.v (.int .i64 ((kindOf i.op:Nat):Int))):=
 .of_flat Tryz.func99 rfl rfl rfl rfl λ w=>Cy i.op i.rd i.rs1 i.rs2 i.imm w
theorem Cv:aT C0 152 [siA i] (.v (.int .i64 ((bL i.op:Nat):Int))):=
 .of_flat Tryz.func152 rfl rfl rfl rfl λ w=>Gx i.op i.rd i.rs1 i.rs2 i.imm w
theorem Cw:aT C0 148 [siA i] (.v (.int .i64 (wr i))):=
 .of_flat Tryz.func148 rfl rfl rfl rfl λ w=>Hz i.op i.rd i.rs1 i.rs2 i.imm w
theorem JX(pc a b:Nat)(hi:i.imm<4294967296)(hp:pc<4294967296)(ha:a<4294967296)(hb:b<4294967296):aT C0 211 [siA i,.v (.int .u32 (pc:Int)),.v (.int .u32 (a:Int)),.v (.int .u32 (b:Int))] (.tup [.v (.int .u32 ((oF i.op i.imm pc a b:Nat):Int)),.v (.bool (decide (oF i.op i.imm pc a b % 4=0)))]):=
 .of_tup Tryz.func211 rfl rfl rfl rfl λ w=>Hx i.op i.rd i.rs1 i.rs2 i.imm pc a b w hi hp ha hb
theorem QH(pc a b:Nat)(hi:i.imm<4294967296)(hp:pc<4294967296)(ha:a<4294967296)(hb:b<4294967296):aT C0 209 [siA i,.v (.int .u32 (pc:Int)),.v (.int .u32 (a:Int)),.v (.int .u32 (b:Int))] (.v (.int .u32 ((Ka i.op i.imm pc a b:Nat):Int))):=
 .of_flat Tryz.func209 rfl rfl rfl rfl λ w=>Kb i.op i.rd i.rs1 i.rs2 i.imm pc a b w hi hp ha hb
theorem QI(op:Int)(a b:Nat)(ha:a<4294967296)(hb:b<4294967296):aT C0 210 [.v (.int .i64 op),.v (.int .u32 (a:Int)),.v (.int .u32 (b:Int))] (.v (.int .i64 (tI op a b))):=
 .of_flat Tryz.func210 rfl rfl rfl rfl λ w=>(Mr op a b w ha hb).mono λ _ _ ⟨h1,h2⟩=>⟨h1,h2 ▸ Below.refl _ _⟩
theorem JY(size:Int)(addr:Nat)(many:Int)(hs:size<9223372036854775808)(ha:addr<4294967296):aT C0 50 [.v (.int .i64 size),.v (.int .u32 (addr:Int)),.v (.int .i64 many)] (.v (.bool (gX size addr many))):=
 .of_flat Tryz.func50 rfl rfl rfl rfl λ w=>(Ki size addr many w hs ha).mono λ _ _ ⟨h1,h2⟩=>⟨h1,h2 ▸ Below.refl _ _⟩
theorem JZ(x n:Nat)(hx:x<4294967296)(hn:n≤4):aT C0 159 [.v (.int .u32 (x:Int)),.v (.int .i64 (n:Int))] (.tup [.v (.string (jW x n)),.v (.int .i64 0)]):=
 .of_tup Tryz.func159 rfl rfl rfl rfl λ w=>Kl x n w hx hn
theorem RJ(s:ByteArray)(hs:s.size≤4):aT C0 196 [.v (.string s)] (.tup [.v (.int .u32 ((joinTo s.data.toList s.size:Nat):Int)),.v (.int .i64 0)]):=
 .of_tup Tryz.func196 rfl rfl rfl rfl λ w=>(Gz s w hs).mono λ _ _ ⟨h1,h2⟩=>⟨h1,h2 ▸ Below.refl _ _⟩
theorem RK(op:Int)(s:ByteArray)(hs:s.size<9223372036854775808):aT C0 149 [.v (.int .i64 op),.v (.string s)] (.v (.int .u32 ((loadP op s:Nat):Int))):=
 .of_flat Tryz.func149 rfl rfl rfl rfl λ w=>Mt op s w hs
end
structure Req where
 kind:Int
 line:Nat
 left:Int
 data:ByteArray
structure Wy where
 line:Nat
 dirty:Bool
 data:ByteArray
structure Ca where
 ways:Int
 sets:List (List Wy)
structure Pt where
 addr:Nat
 data:ByteArray
structure Gs where
 pc:Nat
 next:Nat
structure Gu where
 slots:List Gs
 hist:Nat
 rets:List Nat
structure Ft where
 pc:Nat
 guess:Nat
structure Cf where
 mode:Int
 width:Int
 rob:Int
 queue:Int
 stores:Int
 slots:Int
 sets:Int
 ways:Int
 lat:List Int
 tables:Bool
 tape:List Nat
structure Ent where
 no:Int
 pc:Nat
 i:SI
 guess:Nat
 is:Int
 left:Int
 value:Nat
 next:Nat
 addr:Nat
 halt:Int
 took:Int
 known:Bool
 filled:Bool
structure Co where
 conf:Cf
 prog:List Nat
 cycle:Int
 r:Nat→Nat
 fetch:Nat
 stop:Bool
 fetched:List Ft
 rob:List Ent
 next:Int
 stores:List Pt
 data:Ca
 words:Ca
 bus:List Req
 asked:Int
 guessed:Int
 mem:ByteArray
 guess:Gu
 halt:Int
 retired:List Sp
def fH:ByteArray:=⟨#[]⟩
def uN:Ent:=⟨0,0,Ro,0,0,0,0,0,0,0,0,false,false⟩
def Hw:Req:=⟨0,0,0,fH⟩
def iD:Wy:=⟨0,false,fH⟩
def aM(n lo hi:Int):Int:=if (if n<lo then lo else n)>hi then hi else (if n<lo then lo else n)
def aP(c:Cf):Cf:=
 {mode:=aM c.mode 0 2,width:=aM c.width 1 2,rob:=aM c.rob 2 8,queue:=aM c.queue 1 4,stores:=aM c.stores 1 4,slots:=aM c.slots 2 6
  sets:=if aM c.sets 1 4=3 then 2 else aM c.sets 1 4,ways:=aM c.ways 1 2
  lat:=(c.lat.take 64).map λ n=>aM n 1 8,tables:=c.tables,tape:=c.tape.take 64}
def inI(n lo hi:Int):Bool:=decide (n≥lo)&&decide (n≤hi)
def mO(c:Cf):Bool:=
 (c.lat.all λ n=>inI n 1 8)&&inI c.mode 0 2&&inI c.width 1 2&&inI c.rob 2 8&&inI c.queue 1 4&&inI c.stores 1 4&&inI c.slots 2 6&&inI c.sets 1 4&&decide (c.sets≠3)&&inI c.ways 1 2&&decide (c.lat.length≤64)&&decide (c.tape.length≤64)
def eE(c:Cf)(k:Int):Int:=
 match (aP c).lat with
 |[]=>1
 |l=>l.getD ((max k 0).toNat % l.length) 1
def oU(c:Cf)(k:Int)(pc:Nat):Nat:=
 match (aP c).tape with
 |[]=>up4 pc
 |l=>l.getD ((max k 0).toNat % l.length) 0
def lineOf(a:Nat):Nat:=a - a % 16
def sQ(q:List Req)(kind:Int)(line:Nat)(left:Int)(data:ByteArray):List Req:=q++[⟨kind,line,max left 1,data⟩]
def bR(q:List Req):List Req×Req×Bool:=
 match q with
 |[]=>([],Hw,false)
 |x::r=>if wrap64 (x.left - 1)>0 then ({x with left:=wrap64 (x.left - 1)}::r,Hw,false)else (r,{x with left:=wrap64 (x.left - 1)},true)
def xJ(q:List Req)(line:Nat)(kind:Int):Bool:=q.any λ x=>decide (x.line=line)&&decide (x.kind=kind)
def oV(q:List Req):Nat:=(q.filter λ x=>decide (x.kind≠4)).length
def pT(c:Ca)(line:Nat):Nat:=line / 16 % c.sets.length
def dU:List Wy→Nat→Option Nat
 |[],_=>none
 |w::l,line=>if w.line=line then some 0 else (dU l line).map (· +1)
def nO(c:Ca)(k:Nat)(set:List Wy):Bool:=
 decide ((set.length:Int)≤c.ways)&&(List.range set.length).all λ at_=>match set[at_]? with
  |some w=>decide (lineOf w.line=w.line)&&decide (pT c w.line=k)&&(decide (w.data.size=0)||decide (w.data.size=16))&&(dU (set.take at_) w.line).isNone
  |none=>true
def cM(c:Ca):Bool:=
 (decide (c.sets.length=1)||decide (c.sets.length=2)||decide (c.sets.length=4))&&(decide (c.ways=1)||decide (c.ways=2))&&(List.range c.sets.length).all λ k=>match c.sets[k]? with
  |some s=>nO c k s
  |none=>true
def vM(sets ways:Int):Ca:=⟨aM ways 1 2,List.replicate (if aM sets 1 4=3 then 2 else aM sets 1 4).toNat []⟩
def bT{α:Type}(l:List α)(k:Nat):List α:=(match l[k]? with|some x=>[x]|none=>[])++l.take k++l.drop (k+1)
def gL(c:Ca)(k:Nat)(set:List Wy):Ca:=⟨c.ways,c.sets.set k set⟩
def aH(c:Ca)(line:Nat):Nat×Option Nat:=
 if cM c=true then (pT c (lineOf line),dU ((c.sets[pT c (lineOf line)]?).getD []) (lineOf line))else (0,none)
def gW(c:Ca)(k:Nat):List Wy:=(c.sets[k]?).getD []
def kI(c:Ca)(line:Nat):Ca:=
 match aH c line with
 |(k,some j)=>gL c k (bT (gW c k) j)
 |(_,none)=>c
def eS(d:ByteArray):ByteArray:=if d.size=16 then d else fH
def modHd{α:Type}(f:α→α):List α→List α
 |[]=>[]
 |x::l=>f x::l
def iU(c:Ca)(line:Nat)(data:ByteArray)(dirty:Bool):Ca×Wy×Bool:=
 if cM c=true then
  match aH c line with
  |(k,some j)=>(gL c k (modHd (λ w=>{w with data:=if (eS data).size=0 then w.data else eS data,dirty:=w.dirty||dirty}) (bT (gW c k) j)),iD,false)
  | (k,none)=>
   if ((gW c k).length:Int)=c.ways then
    (gL c k (⟨lineOf line,dirty,eS data⟩::(gW c k).dropLast),(gW c k).getLast?.getD iD,true)
   else (gL c k (⟨lineOf line,dirty,eS data⟩::gW c k),iD,false)
 else (c,iD,false)
def zI(d:ByteArray)(from_:Nat)(b:ByteArray):ByteArray:=d.extract 0 from_++b++d.extract (from_+b.size) d.size
def oE(c:Ca)(addr:Nat)(bytes:ByteArray):Ca×Bool:=
 match aH c addr with
 | (k,some j)=>
  match (gW c k)[j]? with
  |some w=>if w.data.size=0∨bytes.size+addr % 16>16 then (c,false)
   else (gL c k (modHd (λ w=>{w with data:=zI w.data (addr % 16) bytes,dirty:=true}) (bT (gW c k) j)),true)
  |none=>(c,false)
 |(_,none)=>(c,false)
def mP(c:Ca)(line:Nat):Ca:=
 match aH c line with
 |(k,some j)=>gL c k ((gW c k).modify j λ w=>{w with dirty:=false})
 |(_,none)=>c
def aZ(c:Ca):Option Wy:=if cM c=true then c.sets.flatten.find? (·.dirty)else none
def tG(m:ByteArray)(p:Pt):ByteArray:=
 if p.addr<m.size then m.extract 0 p.addr++p.data.extract 0 (min p.data.size (m.size - p.addr))++m.extract (p.addr+min p.data.size (m.size - p.addr)) m.size else m
def jG(m:ByteArray)(l:List Pt):ByteArray:=l.foldl tG m
def cG(q:List Req):List Pt:=(q.filter λ x=>decide (x.kind=4)).map λ x=>⟨x.line,x.data⟩
def dV(q:List Req)(m:ByteArray):ByteArray:=jG m (cG q)
def Fd(c:Ca):List Pt:=c.sets.flatten.map λ w=>⟨w.line,w.data⟩
def uO(c:Ca)(q:List Req)(m:ByteArray):ByteArray:=jG (dV q m) (Fd c)
def QF(stores:List Pt)(c:Ca)(q:List Req)(m:ByteArray):ByteArray:=jG (uO c q m) stores
def Ao(m:ByteArray)(line:Nat):ByteArray:=if lineOf line<m.size then m.extract (lineOf line) (lineOf line+min (m.size - lineOf line) 16)else fH
def QG:Gu:=⟨List.replicate 8 ⟨0,0⟩,0,[]⟩
def jR(g:Gu):Bool:=decide (g.slots.length=8)&&decide (g.hist<8)&&decide (g.rets.length≤4)
def cR(g:Gu)(pc:Nat):Nat:=(pc / 4 ^^^ g.hist) % 8
def JW(i:SI):Bool:=(decide (i.op=3)||decide (i.op=4))&&decide (i.rd=1)
def Ap(i:SI):Bool:=decide (i.op=4)&&decide (i.rd=0)&&decide (i.rs1=1)
def nP(g:Gu)(pc:Nat)(i:SI):Nat:=
 if jR g=true∧kindOf i.op=5 then
  if Ap i=true∧0<g.rets.length then g.rets.getLast?.getD 0
  else match g.slots[cR g pc]? with
   |some s=>if s.pc=pc∧ ¬ (s.pc=0∧s.next=0)then s.next else up4 pc
   |none=>up4 pc
 else up4 pc
def bO(g:Gu)(pc next:Nat)(i:SI):Gu:=
 if jR g=true∧kindOf i.op=5 then
  {slots:=g.slots.set (cR g pc) ⟨pc,next⟩
   hist:=(2 * g.hist+(if next≠up4 pc then 1 else 0)) % 8
   rets:=if JW i=true then (if (g.rets++[up4 pc]).length>4 then (g.rets++[up4 pc]).drop 1 else g.rets++[up4 pc])
    else if Ap i=true∧0<g.rets.length then g.rets.dropLast else g.rets}
 else g
@[reducible] def Ctx.at(C:Ctx)(s:Nat):Ctx:={C with fr:=s}
def CQ(r:AV):Nat→AV:=λ i=>match i with|0=>r|_=>.any
def Sn(C:Ctx)(fn:Func)(Post:AV→AH→Prop)(s:Nat):AEx→ASt→Prop
 | .exit _,_=>False
 |_,st=>∃ rs,resA C st fn.results.toList=some rs∧GhostN ⟨CQ (zX rs),st.h,st.n⟩ (λ stg=>∃ r h' σ,Post r h'∧keepB s σ (s+1)=true∧Weak stg ⟨CQ r,h',s+1⟩ σ)
def wW(h:AH):Nat→Bool
 |0=>true
 |k+1=>match h k with|some _=>wW h k|none=>false
theorem lE{h:AH}:∀ {s:Nat},wW h s=true→∀ x,x<s→h x≠none
 |0,_,x,hx=>absurd hx (Ud _)
 | k+1,hf,x,hx=>by
  simp only[wW]at hf;split at hf
  ·rename_i b hb;rcases al_Nat_lt_or_ge x k with h|h
   ·exact lE hf x h
   ·have:x=k:=by omega
    subst this;rw[hb];simp
  ·cases hf
theorem DS:∀ {fr:Nat} {σ:Nat→Nat} {n:Nat},keepB fr σ n=true→∀ x,x<fr→σ x=x∧x<n
 |0,_,_,_,x,hx=>absurd hx (Ud _)
 | k+1,σ,n,hf,x,hx=>by
  simp only[keepB]at hf;split at hf
  ·rename_i h1 h2;rcases al_Nat_lt_or_ge x k with h|h
   ·exact DS hf x h
   ·have:x=k:=by omega
    subst this;exact⟨Ta h1,Tf h2⟩
  ·cases hf
section
variable (S:Nat→Prop)(w:World)(β:Bt)
def OwnB(b:Nat):Prop:=∃ x l,β x=some l∧l.blk=b
structure FrP(s:Nat)(S':Nat→Prop)(w':World)(β':Bt):Prop where
 hS:∀ b,S b→S' b
 hE:Evo S w w'
 sz:w.heap.size≤w'.heap.size
 keep:∀ x l,x<s→β x=some l→β' x=some l
 own:∀ x l,β' x=some l→OwnB β l.blk∨w.heap.size≤l.blk
 nw:∀ b,S' b→S b∨w.heap.size≤b∨OwnB β b
 still:∀ b,b<w.heap.size→ ¬ OwnB β b→w'.heap[b]?=w.heap[b]?
theorem Mv{S:Nat→Prop}{w w' w2:World}(h:Evo S w w')(e:w2.heap=w'.heap):Evo S w w2:=⟨λ b hb=>by rw[e];exact h.stable b hb,λ b cs t fr hb=>by rw[e];exact h.shape b cs t fr hb⟩
def Aq(s:Nat):Inv s where
 p:=FrP S w β s
 mono:=by
  intro B S1 w1 β1 s1 S2 w2 β2 P K
  refine⟨λ b hb=>K.hS b (P.hS b hb),P.hE.trans P.hS K.hE,Tb P.sz K.hB.size,λ x l hx hl=>K.hle _ _ (P.keep x l hx hl),λ x l hl=>?_,λ b hb=>?_,λ b hb hn=>?_⟩
  ·rcases K.hdom x l hl with h|⟨_,h|⟨y,k,h1,h2⟩⟩
   ·exact P.own x l h
   ·exact .inr (Tb P.sz h)
   ·rw[←h2];exact P.own y k h1
  ·rcases K.hN b hb with h|⟨_,h|⟨y,k,h1,h2⟩⟩
   ·exact P.nw b h
   ·exact .inr (.inl (Tb P.sz h))
   ·rcases P.own y k h1 with h|h
    ·exact .inr (.inr (h2 ▸ h))
    ·exact .inr (.inl (h2 ▸ h))
  ·refine (K.hO b (Nat.lt_of_lt_of_le hb P.sz) λ y k h1 h2=>?_).trans (P.still b hb hn)
   rcases P.own y k h1 with h|h
   ·exact hn (h2 ▸ h)
   ·rw[h2]at h;omega
 weak:=by
  intro S1 w1 β1 σ n P hk
  refine⟨P.hS,P.hE,P.sz,λ x l hx hl=>?_,λ x l hl=>?_,P.nw,P.still⟩
  ·obtain⟨h1,h2⟩:=DS hk x hx
   simp only[h2,Vk,h1]
   exact P.keep x l hx hl
  ·by_cases hx:x<n
   ·rw[if_pos hx]at hl;exact P.own _ l hl
   ·rw[if_neg hx]at hl;cases hl
 frz:=by
  intro S1 w1 β1 x l P hl
  refine⟨λ b hb=>.inl (P.hS b hb),P.hE,P.sz,P.keep,P.own,λ b hb=>?_,P.still⟩
  rcases hb with hb|rfl
  ·exact P.nw b hb
  ·exact (P.own x l hl).elim (λ h=>.inr (.inr h)) λ h=>.inr (.inl h)
 heap:=by
  intro S1 w1 w2 β1 P e
  exact⟨P.hS,Mv P.hE e,by rw[e];exact P.sz,P.keep,P.own,P.nw,λ b hb hn=>by rw[e];exact P.still b hb hn⟩
end
theorem HCall.intro{C:Ctx}{s:Nat}(hC:CtxOk (C.at s)){f:FuncId}{fn:Func}{body:Code}{args:List AV}{h:AH}{Post:AV→AH→Prop}(hf:C.P.funcs[f]?=some fn)(hb:fn.body=some body)(hnm:(fn.name== "runtime.NumGoroutine")=false)
  (hN:lJ fn.ntmps body=true) (hlen:Nat.ble args.length fn.ntmps=true) (hfull:wW h s=true) (hw:dA (C.at s) (aT (C.at s)) body ⟨argsT args,h,s⟩ (Sn (C.at s) fn Post s)) (hdf:C.df=[]:=by rfl):iK C.P C.G f args h s Post:=by
 refine⟨⟨fn,hf,by rw[hb];rfl,hnm⟩,λ B S w β vs H hdom hG hargs=>?_⟩;have hlen:=Tf hlen;refine calls_of_wp hf hb ?_;have hB0:({w with heap:=w.heap.extract 0 B}:World).heap.size=B:=by
  show (w.heap.extract 0 B).size=B;rw[Array.size_extract];have:=H.big;omega
 have hget:∀ b,b<B→(w.heap.extract 0 B)[b]?=w.heap[b]? :=λ b hb=>by
  rw[Vz,if_pos (by have:=H.big;omega),Tz]
 have M0:SimD (C.at s) (Aq S w β s) {w with heap:=w.heap.extract 0 B} S fn.ntmps (· <s) (argsT args) h {tmps:=vs.toArray++Array.replicate (fn.ntmps - vs.toArray.size) undef,defers:=[]} w S β:=by
  have hl:vs.length=args.length:=hargs.1.symm;refine⟨λ i=>?_,by rw[hB0];exact H,⟨rfl,rfl,rfl,by rw[hB0];exact H.big,λ b hb=>?_⟩,hdom,hdf.symm,by simp;omega,hG,λ _ h=>.inl h,⟨λ _ h=>h,Evo.refl _ _,SU _,λ _ _ _ h=>h,λ x l h=>.inl ⟨x,l,h,rfl⟩,λ _ h=>.inl h,λ _ _ _=>rfl⟩⟩
  ·rw[qN]
   cases ha:args[i]? with
   |none=>exact .any _
   | some x=>
    have hi:i<vs.length:=by rw[hl];exact (WB.1 ha).1
    have hv:vs[i]?=some vs[i]:=SS hi;have:(vs.toArray++Array.replicate (fn.ntmps - vs.toArray.size) undef).getD i undef=vs[i]:=by
     rw[SX,TX (by simpa using hi),Uj,hv];rfl
    rw[this];exact hargs.2 i x _ ha hv
  ·rw[hB0]at hb;exact (hget b hb).symm
 refine wp_mono (uY hC body hN ⟨argsT args,h,s⟩ _ hw _ w S β M0) ?_;rintro e a' w' ⟨e',st,S',β',rfl,hfin,M⟩;have fin:(∃ rs,resA (C.at s) st fn.results.toList=some rs∧GhostN ⟨CQ (zX rs),st.h,st.n⟩ (λ stg=>∃ r h' σ,Post r h'∧keepB s σ (s+1)=true∧Weak stg ⟨CQ r,h',s+1⟩ σ))→a'.defers=[]∧∃ v,(results fn a'.tmps).run C.P w'=.ok v w'∧∃ v' S2 β2 r h',Post r h'∧Ending.returned v=.returned v'∧Rep S2 w' β2 r v'∧SimH B S2 w' β2 h'∧StepK B S w β s S2 w' β2:=by
  rintro ⟨rs,h1,stg,hgs,r,h',σ,hP,hk,hW⟩;obtain⟨t,hh,n⟩:=st;obtain⟨us,g1,g2⟩:=CU hC M _ rs h1;have hret:Rep S' w' β' (zX rs) (if h:us.toArray.size=1 then us.toArray[0]else .tuple us.toArray):=by
   match rs,us,g2 with
   |[],us,g2=>
    have:us=[]:=Tm g2.1.symm;subst this
    exact .tup [] #[] rfl λ i a u p=>by simp at p
   |[x],us,g2=>
    match us,g2 with
    |[u],g2=>simpa [zX]using g2.2 0 x u rfl rfl
    |[],g2=>exact absurd g2.1 (by simp)
    |_::_::_,g2=>exact absurd g2.1 (by simp)
   | x::y::zs,us,g2=>
    have hne: ¬ us.toArray.size=1:=by
     have:=g2.1;simp at this⊢;omega
    rw[dif_neg hne];exact .tup _ _ (by simpa using g2.1) λ i a u p q=>g2.2 i a u p (by simpa using q)
  refine⟨M.df.trans hdf,_,oZ _ us g1 fn rfl,?_⟩;generalize hv:(if h:us.toArray.size=1 then us.toArray[0]else .tuple us.toArray)=v at hret⊢;have M1:SimD (C.at s) (Aq S w β s) {w with heap:=w.heap.extract 0 B} S 1 (· <n) (CQ (zX rs)) hh {tmps:= #[v],defers:=a'.defers} w' S' β':=by
   refine⟨λ i=>?_,M.H,M.B,M.dom,M.df,rfl,M.G,M.nw,M.iv⟩
   cases i with
   |zero=>exact hret
   |succ i=>exact .any _
  obtain⟨S2,M2⟩:=fQ hgs M1;have M3:=lX hW hk M2;have hr:=M3.T 0;refine⟨v,S2,_,r,h',hP,rfl,hr,by have:=M3.H;rwa [hB0]at this,?_⟩;have P:FrP S w β s S2 w' _:=M3.iv;have hfl:=lE hfull;refine⟨P.hS,P.hE,⟨M3.B.os,M3.B.tape,M3.B.output,P.sz,λ b hb=>?_⟩,λ x l hl=>P.keep x l (hdom x l hl) hl,λ x l hl=>?_,λ b hb=>?_,λ b hb hn=>P.still b hb λ⟨x,l,h1,h2⟩=>hn x l h1 h2⟩
  ·rw[M3.B.block b (by rw[hB0];exact hb)];exact hget b hb
  ·rcases al_Nat_lt_or_ge x s with hx|hx
   ·obtain⟨blk,hblk⟩:=WA.1 (hfl x hx);obtain⟨l0,_,_,_,k1,_⟩:=H.own x blk hblk;have:=P.keep x l0 hx k1;rw[hl]at this;injection this with this;subst this;exact .inl k1
   ·have hx':x=s:=by
     have:=M3.dom x l hl;show x=s;have:x<s+1:=this;omega
    refine .inr ⟨hx',?_⟩;rcases P.own x l hl with ⟨y,k,h1,h2⟩|h
    ·exact .inr ⟨y,k,h1,h2⟩
    ·exact .inl h
  ·rcases P.nw b hb with h|h|⟨y,k,h1,h2⟩
   ·exact .inl h
   ·exact .inr ⟨Tb H.big h,.inl h⟩
   ·rcases M3.nw b hb with h|h
    ·exact .inl h
    ·exact .inr ⟨by rwa [hB0]at h,.inr ⟨y,k,h1,h2⟩⟩
 cases e' with
 |normal=>exact fin hfin
 |ret=>exact fin hfin
 |exit i=>exact hfin.elim
theorem Fg{S:Nat→Prop}{w:World}{β:Bt}{a:AV}{v:Value}(hr:Rep S w β a v):∀ {β':Bt} {ρ:Nat→Nat},(∀ x l,β x=some l→β' (ρ x)=some l)→Rep S w β' (mI ρ a) v:=by
 induction hr with
 |v x=>intro β' ρ _;exact .v x
 |agg cs vs hl h1 h ih=>
  intro β' ρ hb;refine .agg _ vs (by rw[kJ];exact hl) h1 λ i a u p q=>?_;rw[gZ]at p;obtain⟨y,hy,rfl⟩:=WF.1 p
  exact ih i y u hy q hb
 |tup cs vs hl h ih=>
  intro β' ρ hb;refine .tup _ vs (by rw[kJ];exact hl) λ i a u p q=>?_;rw[gZ]at p;obtain⟨y,hy,rfl⟩:=WF.1 p
  exact ih i y u hy q hb
 |sl rs rows clip A c b o u hc hm hcl hrs hA hw h1 hr ih=>intro β' ρ _;exact .sl rs rows clip A c b o u hc hm hcl hrs hA hw h1 hr
 |dp rs col row b o u hrs hb hw h1 hr ih=>intro β' ρ _;exact .dp rs col row b o u hrs hb hw h1 hr
 |ptr s col l hl=>intro β' ρ hb;exact .ptr _ col l (hb _ _ hl)
 |ptr2 s row col l hl=>intro β' ρ hb;exact .ptr2 _ row col l (hb _ _ hl)
 |osl s lo len clip l A c hl hc hm hcl hA cs e fr hb room=>intro β' ρ hb';exact .osl _ lo len clip l A c (hb' _ _ hl) hc hm hcl hA cs e fr hb room
 | clo f first caps vs us hl h hl' h' ih ih'=>
  intro β' ρ hb;refine .clo f _ _ vs us (by rw[kJ];exact hl) (λ i a u p q=>?_) (by rw[kJ];exact hl') λ i a u p q=>?_
  ·rw[gZ]at p;obtain⟨y,hy,rfl⟩:=WF.1 p;exact ih i y u hy q hb
  ·rw[gZ]at p;obtain⟨y,hy,rfl⟩:=WF.1 p
   exact ih' i y u hy q hb
 |optT g a x hg h ih=>intro β' ρ hb;exact .optT g _ x hg (ih hb)
 |optF g a hg=>intro β' ρ _;exact .optF g _ hg
 |any x=>intro β' ρ _;exact .any x
theorem Ko{S:Nat→Prop}{w:World}{β β':Bt}{ρ:Nat→Nat}{l:Loc}{cs:Array Value}{blk:Blk}(k:sN S w β l cs blk)(hb:∀ x l,β x=some l→β' (ρ x)=some l):sN S w β' l cs (Ae ρ blk):=by
 cases blk with
 |box cells=>
  intro j a hj;rw[gZ]at hj;obtain⟨y,hy,rfl⟩:=WF.1 hj;obtain⟨u,p1,p2,p3⟩:=k j y hy
  exact⟨u,p1,p2,Fg p3 hb⟩
 |arr rows rs=>exact k
 |row cells=>
  refine⟨k.1,λ j a hj=>?_⟩;rw[gZ]at hj;obtain⟨y,hy,rfl⟩:=WF.1 hj;obtain⟨u,p1,p2,p3⟩:=k.2 j y hy;exact⟨u,p1,p2,Fg p3 hb⟩
theorem HD{S:Nat→Prop}{w:World}{β:Bt}{ρ:Nat→Nat}{n:Nat}{l:Loc}{cs:Array Value}{blk:Blk}(hb:kV n blk=true)(k:sN S w β l cs (Ae ρ blk)):sN S w (λ s=>if s<n then β (ρ s)else none) l cs blk:=by
 cases blk with
 |box cells=>
  intro j a hj;obtain⟨u,q1,q2,q3⟩:=k j (mI ρ a) (by rw[gZ,hj];rfl)
  exact⟨u,q1,q2,uW _ _ _ (SU _) (jX _ cells (by simpa [kV]using hb) j a hj) q3⟩
 |arr rows rs=>exact k
 |row cells=>
  refine⟨k.1,λ j a hj=>?_⟩;obtain⟨u,q1,q2,q3⟩:=k.2 j (mI ρ a) (by rw[gZ,hj];rfl);exact⟨u,q1,q2,uW _ _ _ (SU _) (jX _ cells (by simpa [kV]using hb) j a hj) q3⟩
def Ar(ρ:Nat→Nat)(s s2:Nat):Nat→Nat:=λ x=>match Nat.beq x s with|true=>s2|false=>ρ x
theorem mR(ρ:Nat→Nat)(s s2:Nat):Ar ρ s s2 s=s2:=by simp[Ar]
theorem jC(ρ:Nat→Nat){s s2 x:Nat}(h:x≠s):Ar ρ s s2 x=ρ x:=by
 unfold Ar;have:Nat.beq x s=false:=by rw[←Ui];exact λ e=>h (Ta e)
 rw[this]
theorem iK.frame{P:Program}{G:Nat→Option (List AV)}{f:FuncId}{args:List AV}{h:AH}{s:Nat}{Post:AV→AH→Prop}(H:iK P G f args h s Post)(ρ:Nat→Nat)(K:AH)(s2:Nat)(hfull:wW h s=true)(hlt:∀ x,h x≠none→x<s)
  (h1:∀ x blk,h x=some blk→ρ x<s2∧kV s blk=true∧K (ρ x)=some (Ae ρ blk)) (h2:∀ x y,x<s→y<s→ρ x=ρ y→x=y) (ha:iE s args=true)
  (Post':AV→AH→Prop) (hPost:∀ r h',Post r h'→∃ K',Post' (mI (Ar ρ s s2) r) K'∧∀ y blk,K' y=some blk→(∃ x blk0,h' x=some blk0∧y=Ar ρ s s2 x∧blk=Ae (Ar ρ s s2) blk0)∨(K y=some blk∧∀ x,x<s→ρ x≠y)):
  iK P G f (uT ρ args) K s2 Post':=by
 refine⟨H.1,λ B S w β vs HK hdom hG hargs=>?_⟩;have hfl:=lE hfull;have hβ:∀ x,x<s→∃ l,β (ρ x)=some l∧K (ρ x)≠none:=λ x hx=>by
  obtain⟨blk,hblk⟩:=WA.1 (hfl x hx);obtain⟨_,_,e⟩:=h1 x blk hblk;obtain⟨l,_,_,_,k1,_⟩:=HK.own _ _ e;exact⟨l,k1,by rw[e];simp⟩
 have HS:SimH B S w (λ x=>if x<s then β (ρ x)else none) h:=by
  refine⟨λ x blk hx=>?_,λ x x' l l' hx hx' e e' hb=>?_,HK.lt,HK.big⟩
  ·obtain⟨_,b1,e⟩:=h1 x blk hx;have hxs:=hlt x (by rw[hx];simp);obtain⟨l,cs,t,fr,k1,k2,k3,k4,k5,k6⟩:=HK.own _ _ e;exact⟨l,cs,t,fr,by simp only[hxs,Vk];exact k1,k2,k3,k4,k5,HD b1 k6⟩
  ·have g1:=hlt x hx;have g2:=hlt x' hx';rw[if_pos g1]at e;rw[if_pos g2]at e';exact h2 x x' g1 g2 (HK.inj _ _ _ _ (hβ x g1).choose_spec.2 (hβ x' g2).choose_spec.2 e e' hb)
 have hL:RepL S w (λ x=>if x<s then β (ρ x)else none) args vs:=by
  refine⟨by rw[←hargs.1,kJ],λ i a u p q=>?_⟩;exact uW _ _ _ (SU _) (jX _ args ha i a p) (hargs.2 i (mI ρ a) u (by rw[gZ,p];rfl) q)
 refine (H.2 B S w _ vs HS (λ x l hl=>?_) hG hL).mono ?_
 ·by_cases hx:x<s
  ·exact hx
  ·rw[if_neg hx]at hl;cases hl
 rintro e w' ⟨v,S',βc,r,h',hP,rfl,hr,HS',KK⟩;obtain⟨K',hP',h3⟩:=hPost r h' hP;have old:∀ x l,(if x<s then β (ρ x)else none)=some l→x<s∧β (ρ x)=some l:=λ x l hl=>by
  by_cases hx:x<s
  ·rw[if_pos hx]at hl;exact⟨hx,hl⟩
  ·rw[if_neg hx]at hl;cases hl
 have hmap:∀ x l,βc x=some l→(λ y=>if y=s2 then βc s else β y) (Ar ρ s s2 x)=some l:=λ x l hl=>by
  rcases KK.hdom x l hl with h|⟨h,_⟩
  ·obtain⟨hx,hx'⟩:=old x l h;have:ρ x<s2:=hdom _ _ hx';rw[jC ρ (by omega)];show (if ρ x=s2 then βc s else β (ρ x))=some l;rw[if_neg (by omega)];exact hx'
  ·subst h;rw[mR];show (if s2=s2 then βc x else β s2)=some l;rw[if_pos rfl];exact hl
 have hle:Em β (λ y=>if y=s2 then βc s else β y):=λ y l hl=>by
  have:=hdom y l hl;show (if y=s2 then βc s else β y)=some l;rw[if_neg (by omega)];exact hl
 have other:∀ y blk l,K y=some blk→β y=some l→(∀ x,x<s→ρ x≠y)→∀ x k,(if x<s then β (ρ x)else none)=some k→k.blk≠l.blk:=λ y blk l hy hl hne x k hk e=>by
  obtain⟨hx,hx'⟩:=old x k hk;exact hne x hx (HK.inj _ _ _ _ (hβ x hx).choose_spec.2 (by rw[hy];simp) hx' hl e)
 refine⟨v,S',λ y=>if y=s2 then βc s else β y,_,K',hP',rfl,Fg hr hmap,⟨λ y blk hy=>?_,λ y y' l l' hy hy' e1 e2 hb=>?_,HS'.lt,HS'.big⟩,⟨KK.hS,KK.hE,KK.hB,hle,λ y l hl=>?_,λ b hb=>?_,λ b hb hn=>KK.hO b hb λ x k hk=>?_⟩⟩
 ·rcases h3 y blk hy with ⟨x,blk0,e1,rfl,rfl⟩|⟨e1,hne⟩
  ·obtain⟨l,cs,t,fr,k1,k2,k3,k4,k5,k6⟩:=HS'.own x blk0 e1;exact⟨l,cs,t,fr,hmap x l k1,k2,k3,k4,k5,Ko k6 hmap⟩
  ·obtain⟨l,cs,t,fr,k1,k2,k3,k4,k5,k6⟩:=HK.own y blk e1;have hdiff:=other y blk l e1 k1 hne;have hlt:=cF k2;refine⟨l,cs,t,fr,hle _ _ k1,(KK.hO _ hlt hdiff).trans k2,k3,k4,λ hS=>?_,k6.mono KK.hS KK.hE hle⟩;rcases KK.hN _ hS with h|⟨_,h|⟨x,k,q1,q2⟩⟩
   ·exact k5 h
   ·omega
   ·exact hdiff x k q1 q2
 ·
  have sort:∀ y l,K' y≠none→(if y=s2 then βc s else β y)=some l→(∃ x,h' x≠none∧βc x=some l∧y=Ar ρ s s2 x)∨(K y≠none∧β y=some l∧∀ x,x<s→ρ x≠y):=λ y l hy hl=>by
   obtain⟨blk,hblk⟩:=WA.1 hy;rcases h3 y blk hblk with ⟨x,blk0,e1,e2,_⟩|⟨e1,hne⟩
   ·obtain⟨l0,_,_,_,k1,_⟩:=HS'.own x blk0 e1;have:=hmap x l0 k1;rw[←e2]at this;rw[show (λ y=>if y=s2 then βc s else β y) y=(if y=s2 then βc s else β y)from rfl,hl]at this;injection this with this;subst this;exact .inl ⟨x,by rw[e1];simp,k1,e2⟩
   ·obtain⟨l0,_,_,_,k1,_⟩:=HK.own y blk e1;have hys:y<s2:=hdom y l0 k1;rw[if_neg (by omega)]at hl;exact .inr ⟨by rw[e1];simp,hl,hne⟩
  have mix:∀ y l x l',K y≠none→β y=some l→(∀ x,x<s→ρ x≠y)→h' x≠none→βc x=some l'→l.blk≠l'.blk:=λ y l x l' hy hl hne hx hl' e=>by
   obtain⟨blk,hblk⟩:=WA.1 hy;have hdiff:=other y blk l hblk hl hne;obtain⟨l0,_,_,_,k1,k2,_⟩:=HK.own y blk hblk;rw[hl]at k1;injection k1 with k1;subst k1;have hlt:=cF k2;rcases KK.hdom x l' hl' with h|⟨_,h|⟨z,k,q1,q2⟩⟩
   ·exact hdiff x l' h e.symm
   ·omega
   ·exact hdiff z k q1 (q2.trans e.symm)
  rcases sort y l hy e1 with ⟨x,a1,a2,a3⟩|⟨a1,a2,a3⟩<;>rcases sort y' l' hy' e2 with ⟨x',b1,b2,b3⟩|⟨b1,b2,b3⟩
  ·rw[a3,b3,HS'.inj x x' l l' a1 b1 a2 b2 hb]
  ·exact absurd hb.symm (mix y' l' x l b1 b2 b3 a1 a2)
  ·exact absurd hb (mix y l x' l' a1 a2 a3 b1 b2)
  ·exact HK.inj y y' l l' a1 b1 a2 b2 hb
 ·have hl:(if y=s2 then βc s else β y)=some l:=hl;by_cases hy:y=s2
  ·rw[if_pos hy]at hl;refine .inr ⟨hy,?_⟩;rcases KK.hdom s l hl with h|⟨_,h|⟨z,k,q1,q2⟩⟩
   ·exact absurd (old s l h).1 (UE _)
   ·exact .inl h
   ·exact .inr ⟨_,k,(old z k q1).2,q2⟩
  ·rw[if_neg hy]at hl;exact .inl hl
 ·rcases KK.hN b hb with h|⟨hB,h|⟨x,k,q1,q2⟩⟩
  ·exact .inl h
  ·exact .inr ⟨hB,.inl h⟩
  ·exact .inr ⟨hB,.inr ⟨_,k,(old x k q1).2,q2⟩⟩
 ·exact hn _ k (old x k hk).2
theorem iK.frame1{P:Program}{G:Nat→Option (List AV)}{f:FuncId}{args:List AV}{blk blk1:Blk}{r:AV}(H:iK P G f args (heapF [(0,blk)]) 1 (λ x h'=>x=r∧h'=heapF [(0,blk1)]))(b:Nat)(K:AH)(s2:Nat)(hb:b<s2)
  (hbl:kV 1 blk=true) (hK:K b=some (Ae (λ _=>b) blk)) (ha:iE 1 args=true):
  iK P G f (uT (λ _=>b) args) K s2 (λ x h'=>x=mI (Ar (λ _=>b) 1 s2) r∧h'=upd K b (some (Ae (Ar (λ _=>b) 1 s2) blk1))):=by
 refine H.frame (λ _=>b) K s2 rfl (λ x hx=>?_) (λ x blk0 hx=>?_) (λ x y hx hy _=>by omega) ha _ λ r' h' hP=>?_
 ·cases x with
  |zero=>omega
  |succ x=>exact absurd rfl hx
 ·cases x with
  |zero=>injection hx with hx;subst hx;exact⟨hb,hbl,hK⟩
  |succ x=>cases hx
 ·obtain⟨rfl,rfl⟩:=hP;refine⟨_,⟨rfl,rfl⟩,λ y blk0 hy=>?_⟩;by_cases he:y=b
  ·subst he;rw[bG]at hy;injection hy with hy;exact .inl ⟨0,blk1,rfl,rfl,hy.symm⟩
  ·rw[aU _ _ he]at hy;exact .inr ⟨hy,λ x hx e=>he e.symm⟩
theorem CtxOk.at{C:Ctx}{s:Nat}(h:CtxOk C):CtxOk (C.at s):=⟨h.ty,h.mixed,h.hH⟩
theorem Sw{C:Ctx}{R:FuncId→List AV→AV→Prop}{Q:AEx→ASt→Prop}{κ:Type}(S:κ→ASt)(G:κ→Prop){a b:Code}{st:ASt}(ka:dA C R a st (λ e st'=>match e with| .normal=>GhostN st' (λ st''=>∃ k σ,Weak st'' (S k) σ∧keepB C.fr σ (S k).n=true∧G k)|e=>Q e st'))(kb:∀ k,G k→dA C R b (S k) Q):dA C R (.seq a b) st Q:=
 SB S G ka kb eU
theorem gY{C:Ctx}{fn:Func}{Post:AV→AH→Prop}{s:Nat}{st:ASt}{rs:List AV}(h1:resA C st fn.results.toList=some rs){r:AV}{h':AH}{σ:Nat→Nat}(hP:Post r h')(hk:keepB s σ (s+1)=true)(hW:Weak ⟨CQ (zX rs),st.h,st.n⟩ ⟨CQ r,h',s+1⟩ σ):
  ∃ rs,resA C st fn.results.toList=some rs∧GhostN ⟨CQ (zX rs),st.h,st.n⟩ (λ stg=>∃ r h' σ,Post r h'∧keepB s σ (s+1)=true∧Weak stg ⟨CQ r,h',s+1⟩ σ):=
 ⟨rs,h1,.mk _ (.refl _) ⟨r,h',σ,hP,hk,hW⟩⟩
theorem aV{st:ASt}{x r:AV}{hp:List (Nat×Blk)}{n:Nat}(σ:Nat→Nat)(hx:x=mI σ r)(hb:fR n r=true)(hh:WH ⟨CQ x,st.h,st.n⟩ n σ hp)(hi:As ((hp.map (·.1)).map σ)=true):Weak ⟨CQ x,st.h,st.n⟩ ⟨CQ r,heapF hp,n⟩ σ:=by
 have W:=Weak.of_lists (st:=⟨CQ x,st.h,st.n⟩) (l:=[(0,r)]) (hp:=hp) (n:=n) σ ⟨⟨hx,hb⟩,trivial⟩ hh hi;refine⟨λ i=>?_,W.h,W.inj⟩;have:=W.t i
 cases i with
 |zero=>exact this
 |succ i=>exact .inl rfl
def LeL(fz:Fz):List AV→List AV→Prop
 |[],[]=>True
 |a::as_,b::bs=>LeZ fz a b∧LeL fz as_ bs
 |_,_=>False
theorem LeL.get{fz:Fz}:∀ {as_ bs:List AV},LeL fz as_ bs→as_.length=bs.length∧∀ (i:Nat) a d,as_[i]?=some a→bs[i]?=some d→LeZ fz a d
 |[],[],_=>⟨rfl,λ i a d h=>by simp at h⟩
 |a::as_,b::bs,h=>by
  obtain⟨h1,h2⟩:=LeL.get h.2;refine⟨by simp[h1],λ i x y hx hy=>?_⟩
  cases i with
  |zero=>simp at hx hy;subst hx hy;exact h.1
  |succ i=>exact h2 i x y (by simpa using hx) (by simpa using hy)
 |[],_::_,h=>h.elim
 |_::_,[],h=>h.elim
theorem LeB.boxL{fz:Fz}{as_ bs:List AV}(h:LeL fz as_ bs):LeB fz (.box as_) (.box bs):=.box as_ bs h.get.1 h.get.2
def GT(st:ASt)(fz:Fz):List (Nat×AV)→Prop
 |[]=>True
 |(i,x)::l=>LeZ fz (st.t i) x∧GT st fz l
def GH(st:ASt)(fz:Fz):List (Nat×Blk)→Prop
 |[]=>True
 |(i,x)::l=>((match fz with|some (b,_,_)=>Nat.beq i b=false|none=>True)∧∃ b0,st.h i=some b0∧LeB fz b0 x)∧GH st fz l
theorem Ghost.of_lists{st:ASt}{fz:Fz}{l:List (Nat×AV)}{hp:List (Nat×Blk)}(hb:match fz with|some (x,rs,rows)=>st.h x=some (.arr rows rs)|none=>True)(ht:GT st fz l)(hh:GH st fz hp):Ghost st ⟨aY l,heapF hp,st.n⟩ fz:=by
 refine⟨λ x rs rows h=>(by subst h;exact hb),rfl,λ i=>?_,λ s blk hs=>?_⟩
 ·clear hh hb
  induction l with
  |nil=>exact .any _
  |cons p l ih=>
   obtain⟨j,x⟩:=p;show LeZ fz _ (aY _ _);simp only[aY]
   cases hq:Nat.beq j i with
   |true=>rw[←Ta hq];exact ht.1
   |false=>exact ih ht.2
 ·clear ht hb
  induction hp with
  |nil=>cases hs
  | cons p hp ih=>
   obtain⟨j,x⟩:=p
   change heapF _ _=_ at hs
   simp only[heapF]at hs
   cases hq:Nat.beq j s with
   |true=>
    rw[hq]at hs;injection hs with hs;subst hs;rw[←Ta hq];refine⟨λ x rs rows hz e=>?_,hh.1.2⟩;have:=hh.1.1;subst hz;simp only at this;rw[e]at this
    simp at this
   |false=>rw[hq]at hs;exact ih hh.2 hs
end Go.Proofs.YtlhofpglndhfaaaGreatDoor
